/- Walks and plain laws. Conditions: none. -/
import Derived.Test.YtdaakdbkmjgloaaGreatDu7
import Derived.WalkKit
import Derived.LaidEql
import Derived.Stop.Asserts
import Derived.RowKitTokens
namespace Go.Proofs.YtdaakdbkmjgloaaGreat.CustodyOwn
open Go Go.Sx
set_option maxRecDepth 100000
set_option maxHeartbeats 4000000
set_option linter.all false
variable {E:Mem} {K:SV->Mem->Prop}
variable {n a k o v me s e:Int} {ts zs x:List Int} {i:Nat} {xs ls:List (List Int)} {st:List (List Int)×Int}
theorem unzig_zig (n:Int):unzig (zig n)=n:=by
 unfold zig unzig
 split
 ·split<;>omega
 ·split<;>omega
theorem zig_lt (h:okN n):zig n<562949953421312:=by
 unfold okN at h;unfold zig;split<;>omega
theorem getD_app {xs:List Int} (h:xs.length=i) (c:Int) (cs:List Int):(xs++(c::cs)++ts).getD i 0=c:=by
 rw [List.getD_eq_getElem?_getD,List.append_assoc,List.getElem?_append_right (by omega)]
 simp [h]
theorem rdF_dig:∀ (k:Nat) (j:Nat) (u' acc:Int) (pre:List Int),0<=u'->u'<128 ^ (k+1)->u'<128 ^ (j+1)->(0<u'\/pre.length=0)->okN (unzig (acc+u'*128 ^ pre.length))->
  rdF a (pre++digF j u'++ts) (k+1) pre.length acc=(unzig (acc+u'*128 ^ pre.length),a+pre.length+(digF j u').length,0):=by
 have last:∀ (k j:Nat) (u' acc:Int) (pre:List Int),0<=u'->u'<128->(0<u'\/pre.length=0)->okN (unzig (acc+u'*128 ^ pre.length))->
  rdF a (pre++digF j u'++ts) (k+1) pre.length acc=(unzig (acc+u'*128 ^ pre.length),a+pre.length+(digF j u').length,0):=by
  intro k j u' acc pre h0 h1 h3 h4
  have hd:digF j u'=[u']:=by cases j with |zero=>rfl|succ j=>unfold digF;rw [if_pos h1]
  rw [hd]
  unfold rdF
  rw [if_neg (by simp),getD_app rfl u' [],if_neg (by omega),if_pos ⟨h4,h3⟩]
  simp
 intro k
 induction k with
 | zero=>
  intro j u' acc pre h0 h1 h2 h3 h4
  exact last 0 j u' acc pre h0 (by simpa using h1) h3 h4
 | succ k ih=>
  intro j u' acc pre h0 h1 h2 h3 h4
  by_cases hu:u'<128
  ·exact last (k+1) j u' acc pre h0 hu h3 h4
  ·obtain ⟨j',rfl⟩:∃ j',j=j'+1:=by
    cases j with
    | zero=>simp at h2;omega
    | succ j=>exact ⟨j,rfl⟩
   have hd:digF (j'+1) u'=(u' % 128+128)::digF j' (u' / 128):=by
    show (if u'<128 then _ else _)=_
    rw [if_neg hu]
   have hm:0<=u' % 128/\u' % 128<128:=⟨Int.emod_nonneg _ (by omega),Int.emod_lt_of_pos _ (by omega)⟩
   rw [hd]
   unfold rdF
   rw [if_neg (by simp),getD_app rfl _ _,if_pos (by omega),if_neg (by omega)]
   have e1:pre++(u' % 128+128)::digF j' (u' / 128)++ts=(pre++[u' % 128+128])++digF j' (u' / 128)++ts:=by simp
   have e2:pre.length+1=(pre++[u' % 128+128]).length:=by simp
   have e3:acc+(u' % 128+128-128)*128 ^ pre.length+u' / 128*128 ^ (pre.length+1)=acc+u'*128 ^ pre.length:=by
    rw [Int.pow_succ,Int.add_sub_cancel,Int.add_assoc,Int.mul_comm (128 ^ pre.length) 128,← Int.mul_assoc,← Int.add_mul]
    have :u' % 128+u' / 128*128=u':=by omega
    rw [this]
   rw [e1,e2]
   rw [ih j' (u' / 128) _ (pre++[u' % 128+128]) (by omega) (by rw [Int.pow_succ] at h1;omega) (by rw [Int.pow_succ] at h2;omega) (.inl (by omega)) (by rw [← e2,e3];exact h4)]
   rw [← e2,e3]
   simp
   omega
theorem rd_put (h:okN n):rd (zs++dig (zig n)++ts) zs.length=(n,(zs.length:Int)+((dig (zig n)).length:Int),0):=by
 have hz:=zig_b h
 have hl:=zig_lt h
 unfold rd
 rw [if_neg (by simp;omega)]
 rw [Int.toNat_natCast,List.append_assoc,List.drop_left]
 have:=rdF_dig (a:=zs.length) (ts:=ts) 6 9 (zig n) 0 [] hz.1 (by simpa using hl) (by simp;omega) (.inr rfl) (by simpa [unzig_zig] using h)
 simp only [List.nil_append,List.length_nil,Int.zero_add,Int.pow_zero,Int.mul_one,unzig_zig] at this
 rw [show ((0:Nat):Int)=0 from rfl,Int.add_zero] at this
 exact this
theorem dig_len8 {u:Int} (h0:0<=u) (h:u<562949953421312):(dig u).length<=7/\((dig u).length=1↔u<128):=by
  have key:∀ (k j:Nat) (u:Int),0<=u->u<128 ^ (k+1)->(digF j u).length<=k+1:=by
    intro k
    induction k with
    | zero => intro j u h0 h1;have h1:u<128:=by simpa using h1
              cases j with
              | zero=>simp [digF]
              | succ j=>unfold digF;rw [if_pos h1];simp
    | succ k ih => intro j u h0 h1
                   cases j with
                   | zero=>simp [digF]
                   | succ j=>
                     unfold digF
                     split
                     · simp
                     · have:=ih j (u / 128) (by omega) (by rw [Int.pow_succ] at h1;omega)
                       simp;omega
  refine ⟨key 6 9 u h0 (by simpa using h),?_⟩
  by_cases hu:u<128
  · rw [dig_last hu];simp [hu]
  · rw [dig_step hu (by omega)]
    have:=(dig_len (u / 128)).1
    exact ⟨fun e=>by simp only [List.length_cons] at e;omega,fun e=>absurd e hu⟩
def encN (l:List Int):List Int:=(l.map fun n=>dig (zig n)).flatten
theorem putN_ok (h:okN n):(putN zs n).1=zs++dig (zig n):=by
 unfold putN;rw [if_pos h]
theorem rec_enc:∀ (l b:List Int),(∀ n∈l,okN n)->l.foldl (fun b n=>(putN b n).1) b=b++encN l
 | [],b,_=>by simp [encN]
 | n::l,b,h=>by
  rw [List.foldl_cons,putN_ok (h n (by simp)),rec_enc l _ fun m hm=>h m (List.mem_cons_of_mem _ hm)]
  simp [encN]
theorem recB_enc {l:List Int} (h:∀ n∈l,okN n):recB l=encN l:=by
 unfold recB;rw [rec_enc l [] h,List.nil_append]
theorem encN_len:∀ (l:List Int),(∀ n∈l,okN n)->l.length<=(encN l).length/\(encN l).length<=7*l.length
 | [],_=>by simp [encN]
 | n::l,h=>by
  have hn:=h n (by simp)
  have h1:=encN_len l fun m hm=>h m (List.mem_cons_of_mem _ hm)
  have h2:=(dig_len8 (zig_b hn).1 (zig_lt hn)).1
  have h3:=dig_len (zig n)
  have e:(encN (n::l)).length=(dig (zig n)).length+(encN l).length:=by simp [encN]
  rw [e,List.length_cons]
  omega
theorem encN_byte {l:List Int} (h:∀ n∈l,okN n):∀ x∈encN l,0<=x/\x<=255:=fun x hx=>by
 unfold encN at hx
 obtain ⟨y,hy,hx⟩:=List.mem_flatten.1 hx
 obtain ⟨n,hn,rfl⟩:=List.mem_map.1 hy
 have z:=zig_lt (h n hn)
 exact dig_byte (zig_b (h n hn)).1 (by omega) x hx
theorem nums_enc:∀ (l pre:List Int) (f:Nat),(∀ n∈l,okN n)->l.length<f->numsN (pre++encN l) f pre.length=some l
 | [],pre,f+1,_,_=>by
  show (if (pre.length:Int)<((pre++encN []).length:Nat) then _ else some [])=some []
  rw [if_neg (by simp [encN])]
 | n::l,pre,f+1,h,hf=>by
  have hn:=h n (by simp)
  have h3:=dig_len (zig n)
  have e:encN (n::l)=dig (zig n)++encN l:=by simp [encN]
  have ih:=nums_enc l (pre++dig (zig n)) f (fun m hm=>h m (List.mem_cons_of_mem _ hm)) (by rw [List.length_cons] at hf;omega)
  show (if (pre.length:Int)<((pre++encN (n::l)).length:Nat) then _ else some [])=some (n::l)
  rw [e,← List.append_assoc,if_pos (by simp only [List.length_append];omega),rd_put hn]
  rw [if_pos rfl]
  rw [List.length_append,Int.natCast_add] at ih
  show Option.map _ (numsN _ f ((pre.length:Int)+((dig (zig n)).length:Int)))=_
  rw [ih];rfl
theorem nums_rec {l:List Int} (h:∀ n∈l,okN n):numsF (recB l)=some l:=by
 unfold numsF
 rw [recB_enc h]
 exact nums_enc l [] _ h (by have:=(encN_len l h).1;omega)
theorem rec_byte {l:List Int} (h:∀ n∈l,okN n):∀ x∈recB l,0<=x/\x<=255:=by rw [recB_enc h];exact encN_byte h
theorem rec_len {l:List Int} (h:∀ n∈l,okN n):(recB l).length<=7*l.length:=by rw [recB_enc h];exact (encN_len l h).2
def foldF (me:Int):List (List Int)->List (List Int)×Int->Option (List (List Int)×Int)
 | [],st=>some st
 | b::bs,st=>match numsF b with
  | none=>none
  | some l=>match appF me st l with
   | none=>none
   | some st'=>foldF me bs st'
theorem foldF_app (me:Int):∀ (xs bs:List (List Int)) (st:List (List Int)×Int),foldF me (xs++bs) st=(foldF me xs st).bind fun q=>foldF me bs q
 | [],bs,st=>rfl
 | a::xs,bs,st=>by
  simp only [List.cons_append,foldF]
  split
  ·rfl
  ·split
   ·rfl
   ·exact foldF_app me xs bs _
def heldF (me s:Int) (zs:List Int):(List (List Int)×Int)×Int:=
 if 0<=me/\me<=59 then
  (if (readF s zs).2=0 then (match foldF me (readF s zs).1 ([],0) with
   | some st=>(st,0)
   | none=>(([],0),9)) else (([],0),(readF s zs).2))
 else (([],0),1)
def keepF (st:List (List Int)×Int):List (List Int):=(if 0<st.2 then [recB [3,st.2]] else [])++st.1.map fun r=>recB (1::r)
def writeF (me s:Int) (zs:List Int) (st:List (List Int)×Int) (b:List Int):List (Int×List Int)×Int:=
 if (appendF s zs b).2=10 then (match numsF b with
  | none=>([],9)
  | some l=>match appF me st l with
   | none=>([],9)
   | some st'=>compactF s zs (keepF st'))
 else appendF s zs b
def takeF (me s:Int) (zs:List Int) (o n k v a:Int):List (Int×List Int)×Int:=
 if (heldF me s zs).2≠0 then ([],(heldF me s zs).2)
 else if okR o n k v a=false then ([],1)
 else if 0<=idxR o n (heldF me s zs).1.1 then ([],5)
 else if o=me/\n<=(heldF me s zs).1.2 then ([],14)
 else if (heldF me s zs).1.1.length=16 then ([],10)
 else writeF me s zs (heldF me s zs).1 (recB [1,o,n,k,v,a])
def giveF (me s:Int) (zs:List Int) (o n:Int):List (Int×List Int)×Int:=
 if (heldF me s zs).2≠0 then ([],(heldF me s zs).2)
 else if idxR o n (heldF me s zs).1.1<0 then ([],4)
 else writeF me s zs (heldF me s zs).1 (recB [2,o,n])
structure Inv (me:Int) (st:List (List Int)×Int):Prop where
 w5:W5 st.1
 ok:∀ x∈st.1,okR (x.getD 0 0) (x.getD 1 0) (x.getD 2 0) (x.getD 3 0) (x.getD 4 0)=true
 nd:∀ (i j:Nat) x y,st.1[i]? =some x->st.1[j]? =some y->isN (x.getD 0 0) (x.getD 1 0) y=true->i=j
 le:st.1.length<=16
 own:∀ x∈st.1,x.getD 0 0=me->x.getD 1 0<=st.2
 cnt:0<=st.2/\st.2<=1000000000
theorem Inv.nil (me:Int):Inv me ([],0):=⟨(fun x hx=>nomatch hx),(fun x hx=>nomatch hx),(fun i j x y h=>by simp at h),(by decide),(fun x hx=>nomatch hx),(by decide)⟩
theorem okR_iff:okR o n k v a=true↔((0<=o/\o<=59)/\(1<=n/\n<=1000000000)/\(0<=k/\k<=1)/\(0<=v/\v<=10000000000000)/\(0<=a/\a<=1000000000)):=by
 unfold okR;exact decide_eq_true_iff
theorem idxR_neg (h:idxR o n xs<0):∀ x∈xs,isN o n x=false:=by
 unfold idxR at h
 split at h
 ·omega
 ·rename_i q
  exact fun x hx=>by simpa using List.findIdx?_eq_none_iff.1 q x hx
theorem idxR_nonneg (h:0<=idxR o n xs):∃ (i:Nat) (x:List Int),idxR o n xs=i/\xs[i]? =some x/\isN o n x=true:=by
 unfold idxR at h ⊢
 split at h
 ·rename_i i q
  obtain ⟨hi,h1,_⟩:=List.findIdx?_eq_some_iff_getElem.1 q
  exact ⟨i,xs[i],rfl,List.getElem?_eq_getElem hi,h1⟩
 ·omega
theorem isN_iff:isN o n x=true↔x.getD 0 0=o/\x.getD 1 0=n:=by
 unfold isN;simp
theorem idxR_lt (h:∀ x∈xs,isN o n x=false):idxR o n xs= -1:=idxR_no fun j x hx=>h x (List.mem_of_getElem? hx)
theorem mx_le {c:Int}:c<=mx n c/\n<=mx n c:=by unfold mx;split<;>omega
theorem mx_cases {c:Int}:mx n c=n\/mx n c=c:=by unfold mx;split<;>simp
theorem app_take (h1:okR o n k v a=true) (h2:idxR o n st.1<0) (h3:st.1.length≠16):
  appF me st [1,o,n,k,v,a]=some (st.1++[[o,n,k,v,a]],if o=me then mx n st.2 else st.2):=by
 unfold appF
 rw [if_pos ⟨rfl,rfl⟩]
 exact if_pos ⟨h1,h2,h3⟩
theorem app_give (h:0<=idxR o n st.1):appF me st [2,o,n]=some (st.1.eraseIdx (idxR o n st.1).toNat,st.2):=by
 unfold appF
 rw [if_neg (fun q=>by simp at q),if_pos ⟨rfl,rfl⟩]
 exact if_pos h
theorem app_count {c:Int} (h:1<=c/\c<=1000000000):appF me st [3,c]=some (st.1,mx c st.2):=by
 unfold appF
 rw [if_neg (fun q=>by simp at q),if_neg (fun q=>by simp at q)]
 exact if_pos ⟨rfl,rfl,h⟩
theorem Inv.take (I:Inv me st) (h1:okR o n k v a=true) (h2:idxR o n st.1<0) (h3:st.1.length≠16):
  Inv me (st.1++[[o,n,k,v,a]],if o=me then mx n st.2 else st.2):=by
 have ok:=okR_iff.1 h1
 have no:=idxR_neg h2
 have hc:st.2<=(if o=me then mx n st.2 else st.2):=by split;exact mx_le.1;exact Int.le_refl _
 refine ⟨I.w5.snoc rfl,fun x hx=>?_,fun i j x y hi hj he=>?_,by have:=I.le;simp;omega,fun x hx e=>?_,?_⟩
 ·rcases List.mem_append.1 hx with hx|hx
  ·exact I.ok x hx
  ·rw [List.mem_singleton.1 hx];exact h1
 ·have li:=(List.getElem?_eq_some_iff.1 hi).1
  have lj:=(List.getElem?_eq_some_iff.1 hj).1
  simp only [List.length_append,List.length_singleton] at li lj
  by_cases c1:i<st.1.length
  ·by_cases c2:j<st.1.length
   ·rw [List.getElem?_append_left c1] at hi
    rw [List.getElem?_append_left c2] at hj
    exact I.nd i j x y hi hj he
   ·rw [List.getElem?_append_left c1] at hi
    rw [List.getElem?_append_right (by omega),show j-st.1.length=0 by omega] at hj
    simp at hj
    have:=no x (List.mem_of_getElem? hi)
    rw [← hj] at he
    have he:=isN_iff.1 he
    have :isN o n x=true:=isN_iff.2 ⟨he.1.symm,he.2.symm⟩
    simp_all
  ·by_cases c2:j<st.1.length
   ·rw [List.getElem?_append_left c2] at hj
    rw [List.getElem?_append_right (by omega),show i-st.1.length=0 by omega] at hi
    simp at hi
    have:=no y (List.mem_of_getElem? hj)
    rw [← hi] at he
    have he:isN o n y=true:=he
    simp_all
   ·omega
 ·rcases List.mem_append.1 hx with hx|hx
  ·exact Int.le_trans (I.own x hx e) hc
  ·rw [List.mem_singleton.1 hx] at e ⊢
   have e:o=me:=e
   show n<=if o=me then mx n st.2 else st.2
   rw [if_pos e];exact mx_le.2
 ·have:=I.cnt
  show 0<=(if o=me then mx n st.2 else st.2)/\(if o=me then mx n st.2 else st.2)<=1000000000
  split
  ·rcases mx_cases (n:=n) (c:=st.2) with q|q<;>rw [q]<;>omega
  ·exact this
theorem get_erase {α:Type} {xs:List α} {a:Nat} {x:α} (h:(xs.eraseIdx a)[i]? =some x):∃ i',xs[i']? =some x/\i'=if i<a then i else i+1:=by
 rw [List.getElem?_eraseIdx] at h
 split at h
 ·rename_i q;exact ⟨i,h,by rw [if_pos q]⟩
 ·rename_i q;exact ⟨i+1,h,by rw [if_neg q]⟩
theorem Inv.erase (I:Inv me st) (a:Nat):Inv me (st.1.eraseIdx a,st.2):=by
 refine ⟨I.w5.erase a,fun x hx=>I.ok x (List.mem_of_mem_eraseIdx hx),fun i j x y hi hj he=>?_,Nat.le_trans (List.length_eraseIdx_le ..) I.le,fun x hx=>I.own x (List.mem_of_mem_eraseIdx hx),I.cnt⟩
 obtain ⟨i',h1,e1⟩:=get_erase hi
 obtain ⟨j',h2,e2⟩:=get_erase hj
 have:=I.nd i' j' x y h1 h2 he
 subst e1;subst e2
 split at this<;>split at this<;>omega
theorem Inv.app {st':List (List Int)×Int} {l:List Int} (I:Inv me st) (h:appF me st l=some st'):Inv me st'/\st.2<=st'.2:=by
 unfold appF at h
 split at h
 ·split at h
  ·rename_i q
   cases h
   refine ⟨I.take q.1 q.2.1 q.2.2,?_⟩
   show st.2<=if _ then _ else _
   split;exact mx_le.1;exact Int.le_refl _
  ·cases h
 ·split at h
  ·split at h
   ·cases h
    exact ⟨I.erase _,Int.le_refl _⟩
   ·cases h
  ·split at h
   ·rename_i q
    cases h
    refine ⟨⟨I.w5,I.ok,I.nd,I.le,fun x hx e=>Int.le_trans (I.own x hx e) mx_le.1,?_⟩,mx_le.1⟩
    have:=I.cnt
    show 0<=mx _ _/\mx _ _<=_
    rcases mx_cases (n:=l.getD 1 0) (c:=st.2) with q'|q'<;>rw [q']<;>omega
   ·cases h
theorem Inv.fold:∀ {ls:List (List Int)} {st st':List (List Int)×Int},Inv me st->foldF me ls st=some st'->Inv me st'
 | [],st,st',I,h=>by cases h;exact I
 | b::ls,st,st',I,h=>by
  unfold foldF at h
  split at h
  ·cases h
  ·split at h
   ·cases h
   ·rename_i q
    exact Inv.fold (I.app q).1 h
theorem held_inv (h:heldF me s zs=(st,e)):Inv me st:=by
 unfold heldF at h
 split at h
 ·split at h
  ·split at h
   ·rename_i q
    cases h
    exact (Inv.nil me).fold q
   ·cases h;exact Inv.nil me
  ·cases h;exact Inv.nil me
 ·cases h;exact Inv.nil me
theorem held_of (hm:0<=me/\me<=59) (h:readF s zs=(ls,0)) (q:foldF me ls ([],0)=some st):heldF me s zs=(st,0):=by
 unfold heldF
 rw [if_pos hm,h,if_pos rfl]
 simp only [q]
theorem okN_take (h:okR o n k v a=true):∀ m∈[1,o,n,k,v,a],okN m:=by
 have:=okR_iff.1 h
 intro m hm
 simp only [List.mem_cons,List.not_mem_nil,or_false] at hm
 unfold okN
 omega
theorem okN_give (h:(0<=o/\o<=59)/\(1<=n/\n<=1000000000)):∀ m∈[2,o,n],okN m:=by
 intro m hm
 simp only [List.mem_cons,List.not_mem_nil,or_false] at hm
 unfold okN
 omega
theorem okN_count {c:Int} (h:0<=c/\c<=1000000000):∀ m∈[3,c],okN m:=by
 intro m hm
 simp only [List.mem_cons,List.not_mem_nil,or_false] at hm
 unfold okN
 omega
theorem five (h:x.length=5):x=[x.getD 0 0,x.getD 1 0,x.getD 2 0,x.getD 3 0,x.getD 4 0]:=by
 match x,h with
 | [a,b,c,d,e],_=>rfl
theorem takes_fold {me:Int} {xs:List (List Int)} {c:Int} (I:Inv me (xs,c)):∀ (n:Nat) (ys zs:List (List Int)),zs.length=n->xs=ys++zs->foldF me (zs.map fun r=>recB (1::r)) (ys,c)=some (xs,c)
 | 0,ys,zs,hn,e=>by
  rw [List.length_eq_zero_iff.1 hn,List.append_nil] at e
  rw [List.length_eq_zero_iff.1 hn,e];rfl
 | n+1,ys,[],hn,e=>by cases hn
 | n+1,ys,z::zs,hn,e=>by
  have hz:z∈xs:=by rw [e];simp
  have z5:=five (I.w5 z hz)
  have ok:=I.ok z hz
  have iz:xs[ys.length]? =some z:=by rw [e,List.getElem?_append_right (Nat.le_refl _),Nat.sub_self];rfl
  have nx:idxR (z.getD 0 0) (z.getD 1 0) ys<0:=by
   rw [idxR_lt];decide
   intro y hy
   obtain ⟨j,hj,rfl⟩:=List.getElem_of_mem hy
   cases q:isN (z.getD 0 0) (z.getD 1 0) ys[j] with
   | false=>rfl
   | true=>
    have:=I.nd ys.length j z ys[j] iz (by rw [e,List.getElem?_append_left hj];exact List.getElem?_eq_getElem hj) q
    omega
  have ln:ys.length≠16:=by have:=I.le;rw [e] at this;simp at this;omega
  have ap:=app_take (me:=me) (st:=(ys,c)) ok nx ln
  have oc:(if z.getD 0 0=me then mx (z.getD 1 0) c else c)=c:=by
   split
   ·rename_i q
    have:=I.own z hz q
    unfold mx
    rw [if_neg (by show ¬ _;exact Int.not_lt.2 this)]
   ·rfl
  have ap:appF me (ys,c) [1,z.getD 0 0,z.getD 1 0,z.getD 2 0,z.getD 3 0,z.getD 4 0]=some (ys++[[z.getD 0 0,z.getD 1 0,z.getD 2 0,z.getD 3 0,z.getD 4 0]],if z.getD 0 0=me then mx (z.getD 1 0) c else c):=ap
  rw [oc,show [[z.getD 0 0,z.getD 1 0,z.getD 2 0,z.getD 3 0,z.getD 4 0]]=[z] by rw [← z5]] at ap
  have nr:numsF (recB (1::z))=some (1::z):=by rw [z5];exact nums_rec (okN_take ok)
  have e5:(1:Int)::z=[1,z.getD 0 0,z.getD 1 0,z.getD 2 0,z.getD 3 0,z.getD 4 0]:=by rw [← z5]
  have ih:=takes_fold I n (ys++[z]) zs (by simpa using hn) (by rw [e];simp)
  simp only [List.map_cons,foldF,nr]
  rw [e5,ap]
  exact ih
theorem keep_fold (I:Inv me st):foldF me (keepF st) ([],0)=some st:=by
 have h:=takes_fold (xs:=st.1) (c:=st.2) I st.1.length [] st.1 rfl rfl
 unfold keepF
 rw [foldF_app]
 by_cases q:0<st.2
 ·rw [if_pos q]
  have ap:=app_count (me:=me) (st:=([],0)) (c:=st.2) (by have:=I.cnt;omega)
  have nr:=nums_rec (okN_count I.cnt)
  have m0:mx st.2 (([]:List (List Int)),(0:Int)).2=st.2:=by unfold mx;exact if_pos q
  rw [m0] at ap
  simp only [foldF,nr,ap,Option.bind_some]
  exact h
 ·rw [if_neg q]
  have e:st.2=0:=by have:=I.cnt;omega
  rw [e] at h
  simp only [foldF,Option.bind_some,h]
  rw [← e]
theorem keep_sm (I:Inv me st):(∀ d∈keepF st,d.length<65536/\∀ x∈d,0<=x/\x<=255)/\(∀ d∈keepF st,d.length<=42)/\(keepF st).length<=17:=by
 have hl:(keepF st).length<=17:=by
  have:=I.le
  unfold keepF
  split<;>simp<;>omega
 have key:∀ d∈keepF st,d.length<=42/\∀ x∈d,0<=x/\x<=255:=by
  intro d hd
  unfold keepF at hd
  rcases List.mem_append.1 hd with hd|hd
  ·split at hd
   ·rw [List.mem_singleton.1 hd]
    have:=rec_len (okN_count I.cnt)
    exact ⟨by simp at this;omega,rec_byte (okN_count I.cnt)⟩
   ·cases hd
  ·obtain ⟨r,hr,rfl⟩:=List.mem_map.1 hd
   have e5:(1:Int)::r=[1,r.getD 0 0,r.getD 1 0,r.getD 2 0,r.getD 3 0,r.getD 4 0]:=by rw [← five (I.w5 r hr)]
   rw [e5]
   have:=rec_len (okN_take (I.ok r hr))
   exact ⟨by simpa using this,rec_byte (okN_take (I.ok r hr))⟩
 exact ⟨fun d hd=>⟨by have:=(key d hd).1;omega,(key d hd).2⟩,fun d hd=>(key d hd).1,hl⟩
theorem erase_filter (I:Inv me st) (h:0<=idxR o n st.1):st.1.eraseIdx (idxR o n st.1).toNat=st.1.filter fun x=> !isN o n x:=by
 obtain ⟨i,x,e,hx,hp⟩:=idxR_nonneg h
 rw [e,Int.toNat_natCast]
 have px:=isN_iff.1 hp
 have key:∀ j y,st.1[j]? =some y->isN o n y=true->j=i:=fun j y hy hn=>by
  have py:=isN_iff.1 hn
  exact (I.nd i j x y hx hy (isN_iff.2 ⟨py.1.trans px.1.symm,py.2.trans px.2.symm⟩)).symm
 obtain ⟨hi,rfl⟩:=List.getElem?_eq_some_iff.1 hx
 have e1:st.1=st.1.take i++(st.1[i]::st.1.drop (i+1)):=by rw [← List.drop_eq_getElem_cons hi,List.take_append_drop]
 rw [List.eraseIdx_eq_take_drop_succ]
 have f1:(st.1.take i).filter (fun x=> !isN o n x)=st.1.take i:=List.filter_eq_self.2 fun y hy=>by
  obtain ⟨j,hj,rfl⟩:=List.getElem_of_mem hy
  rw [List.length_take] at hj
  cases q:isN o n (st.1.take i)[j] with
  | false=>rfl
  | true=>
   have:=key j _ (by rw [List.getElem_take];exact List.getElem?_eq_getElem (by omega)) q
   omega
 have f2:(st.1.drop (i+1)).filter (fun x=> !isN o n x)=st.1.drop (i+1):=List.filter_eq_self.2 fun y hy=>by
  obtain ⟨j,hj,rfl⟩:=List.getElem_of_mem hy
  cases q:isN o n (st.1.drop (i+1))[j] with
  | false=>rfl
  | true=>
   have:=key (i+1+j) _ (by rw [List.getElem_drop];exact List.getElem?_eq_getElem _) q
   omega
 conv=>rhs;rw [e1]
 rw [List.filter_append,List.filter_cons,if_neg (by simp [hp]),f1,f2]
end Go.Proofs.YtdaakdbkmjgloaaGreat.CustodyOwn
namespace Go.Proofs.YtdaakdbkmjgloaaGreat.CustodyOwn
open Go Go.Sx Go.RowKit Go.Extern.Stop Go.Stop Go.Extern
set_option maxRecDepth 100000
set_option maxHeartbeats 4000000
set_option linter.all false
variable {E:Mem} {K:SV->Mem->Prop}
variable {a e me s cnt a1 a5 n o k v:Int} {zs x:List Int} {st:List (List Int)×Int} {ls xs full want ds:List (List Int)} {m tot c l i c4 l3 kcap ktot l2 c3:Nat} {Q KK:KT} {E0:Mem} {b b2 b1:Option Addr} {js rs:List Value} {bx:List Box} {rr:List (List Value)}
theorem err_eql (w:World) (a b:Int):(binOp .eql 45 (.iface 29 (.int .i64 a)) (.iface 29 (.int .i64 b))).run Tryz.prog w= .ok (.bool (a==b)) w:=by
 have h0:(match Tryz.prog.underlying 45 with |some (.interface _)=>true|_=>false)=true:=by kernel_rfl
 have h1:∃ ms,Tryz.prog.underlying 45=some (.interface ms):=by
  split at h0
  ·rename_i ms e;exact ⟨ms,e⟩
  ·cases h0
 have h2:Tryz.prog.underlying 29=some (.int .i64):=by kernel_rfl
 have h3:(Tryz.prog.info? 29).map (·.comparable)=some true:=by kernel_rfl
 obtain ⟨ms,h1⟩:=h1
 obtain ⟨i,hi,hc⟩:=Option.map_eq_some_iff.1 h3
 have key:∀ d:Nat,(Op.equalIn (d+2) 45 (.iface 29 (.int .i64 a)) (.iface 29 (.int .i64 b))).run Tryz.prog w= .ok (a==b) w:=fun d=>by
  simp [Op.equalIn,run_underlying h1,run_underlying h2,typeInfo,hi,hc]
 have k:=key 9998
 simp only [binOp,Op.equal,Op.maxDepth]
 simp only [Sem.run_bind,k,Result.andThen_ok,Sem.run_pure]
theorem isTypeOf (v:Value) (w:World):(Extern.ReflectliteType.typeOf #[.iface 29 v]).run Tryz.prog w= .ok (.iface 121 (.agg #[.pointer (some ⟨1,29,none⟩)])) w:=by kernel_rfl
theorem isComparable (w : World) : ((Extern.ReflectliteType.method fun t => do Extern.Rtype.noPackHeld "Comparable" t; (fun a => Value.bool a.comparable) <$> typeInfo t) #[.agg #[.pointer (some ⟨1, 29, none⟩)]]).run Tryz.prog w = .ok (.bool true) w := by kernel_rfl
theorem isMethodC (v : Value) (w : World) : (Go.method 294 121 v "Comparable").run Tryz.prog w = .ok (135, v) w := by kernel_rfl
theorem und123 : Tryz.prog.underlying 123 = some (.interface #[("Is", 125)]) := by kernel_rfl
theorem und126 : Tryz.prog.underlying 126 = some (.interface #[("Unwrap", 127)]) := by kernel_rfl
theorem und128 : Tryz.prog.underlying 128 = some (.interface #[("Unwrap", 130)]) := by kernel_rfl
theorem noIs (v:Value) (xT:TypeId) (w:World):(Instr.typeAssert (.iface 29 v) xT 123 true).run Tryz.prog w= .ok (.tuple #[.nilIface,.bool false]) w:=run_typeAssert_lacksB und123 (by kernel_rfl) (by kernel_rfl) v xT w
theorem noUnwrap (v:Value) (xT:TypeId) (w:World):(Instr.typeAssert (.iface 29 v) xT 126 true).run Tryz.prog w= .ok (.tuple #[.nilIface,.bool false]) w:=run_typeAssert_lacksB und126 (by kernel_rfl) (by kernel_rfl) v xT w
theorem noUnwraps (v:Value) (xT:TypeId) (w:World):(Instr.typeAssert (.iface 29 v) xT 128 true).run Tryz.prog w= .ok (.tuple #[.nilIface,.bool false]) w:=run_typeAssert_lacksB und128 (by kernel_rfl) (by kernel_rfl) v xT w
theorem is_err (a b:Int) (w:World):Calls Tryz.prog 40 #[.iface 29 (.int .i64 a),.iface 29 (.int .i64 b)] w fun e w'=>e= .returned (.bool (a==b))/\w'=w:=by
 have h8:=@run_callFunc_extern Tryz.prog 60 _ Extern.ReflectliteType.typeOf Tryz.func60 (by kernel_rfl) (by kernel_rfl) (by kernel_rfl) (by kernel_rfl)
 have h32 := @run_callFunc_extern Tryz.prog 135 _ (Extern.ReflectliteType.method fun t => do Extern.Rtype.noPackHeld "Comparable" t; pure (.bool (← typeInfo t).comparable)) Tryz.func135 (by kernel_rfl) (by kernel_rfl) (by kernel_rfl) (by kernel_rfl)
 have tT:=isTypeOf
 have cT:=isComparable
 have mR:=isMethodC
 have nE:=noIs
 have uE:=noUnwrap
 have vE:=noUnwraps
 have heq:=err_eql w a b
 cases hab:(a==b) with
 | true=>
  rw [hab] at heq
  go_enter Tryz.func40,(show Tryz.f40.ntmps=22 from rfl)
  go_wp2
  refine wp_loop_rounds 1 ?_
  rw [rounds_succ]
  go_wp2
  go_ret
  exact ⟨rfl,rfl⟩
 | false=>
  rw [hab] at heq
  go_enter Tryz.func40,(show Tryz.f40.ntmps=22 from rfl)
  go_wp2
  refine wp_loop_rounds 1 ?_
  rw [rounds_succ]
  go_wp2
  go_ret
  exact ⟨rfl,rfl⟩
theorem s32u {b:Int} (h:K (B (a==b)) E):TabSem Tryz.prog 40 [.ifc 29 (I a),.ifc 29 (I b)] E K:=by
 refine ⟨⟨_,Tryz.func40,by kernel_rfl,by kernel_rfl⟩,_,rfl,fun w hw=>(is_err a b w).mono ?_⟩
 rintro e w' ⟨rfl,rfl⟩
 exact ⟨_,_,E,rfl,rfl,Keep.refl _ _,mr_,hw,fun v cs g hne=>.inr ⟨v,cs,g,hne,rfl⟩,h⟩
noncomputable def tab32:FuncId->List SV->Mem->(SV->Mem->Prop)->Prop:=fun f args E K=>match f with
 | 40=>∃ a b:Int,args=[.ifc 29 (I a),.ifc 29 (I b)]/\K (B (a==b)) E
 | _=>False
theorem tab32_ok:TabOK Tryz.prog tab32:=by
 intro f args E K h
 unfold tab32 at h
 split at h
 ·obtain ⟨a,b,rfl,h⟩:=h
  exact s32u h
 ·exact h.elim
noncomputable def QC:Cx:={ P:=Tryz.prog,inl:=fun f=>List.contains [] f,tab:=tab32,isB:=fun _=>false,tabB:=fun _ _ _ _ _=>False,opt:={ unroll:=0,carry:=[3] },muts:=mutsD }
theorem okQC:CxOK QC:=CxOK.four tab32_ok (by kernel_rfl) (okInl (by kernel_rfl)) (fun _ _ _ _ _ h=>h.elim)
def us20 (e i:Int) (E:Mem):St:=⟨[some (.ifc 29 (I e)),none,oI 0,oI i]++nn 12,[],E⟩
theorem ur20 {i:Int} (hi:1<=i/\i<=e) (he:e<=16) (h:K (I e) E) (ih:i<e->Lp QC 8 Tryz.f17 [1,1,0,1,0] 0 (pubK E K) (us20 e (i+1) E)):Rnd QC 8 Tryz.f17 [1,1,0,1,0] 0 (pubK E K) (us20 e i E):=by
 refine sm_ (?_:bif decide (i<=(16:Int)) then ∃ (a:Int),∃ (b:Int),[SV.ifc 29 (I e),SV.ifc 29 (I i)]=[SV.ifc 29 (I a),SV.ifc 29 (I b)]/\Mem.le E E/\bif bif true then !a==b else false then Lp QC 8 Tryz.f17 [1,1,0,1,0] 0 (pubK E K) { fr:=some (SV.ifc 29 (I e))::none::oI 0::oI (WI (i+(1:Int)))::no8 (no4 []),bx:=[],E:=E:St } else Mem.le E E/\K (I i) E else Mem.le E E/\K (I i) E)
 delta WI no4 no8
 refine condC (fun g=>⟨_,_,rfl,mr_,condC (fun q=>?_) (fun q=>⟨mr_,?_⟩)⟩) (fun g=>by simp at g;omega)
 ·have q:e≠i:=by simpa using q
  rw [wrap_i64 (x:=i+1) (by omega)]
  exact Lp_re [] (ih (by omega)) (wkG mr_)
 ·have q:e=i:=by simpa using q
  rw [← q];exact h
theorem s20w (he:1<=e/\e<=16) (h:K (I e) E):Ent QC 8 Tryz.f17 [.ifc 29 (I e)] E K:=by
 refine sm_ (?_:Lp QC 8 Tryz.f17 [1,1,0,1,0] 0 (pubK E K) { fr:=some (SV.ifc 29 (I e))::none::oI 0::oI 1::no8 (no4 []),bx:=[],E:=E:St })
 delta no4 no8
 exact Lp_re [] (Lp_ind okQC (fun z:{i:Int//1<=i/\i<=e}=>us20 e z.1 E) (fun z=>(e-z.1).toNat) (fun z ih=>ur20 z.2 he.2 h fun g=>ih ⟨z.1+1,by have:=z.2;omega,by omega⟩ (by show (e-(z.1+1)).toNat<(e-z.1).toNat;omega)) ⟨1,Int.le_refl _,he.1⟩) (wkG mr_)
theorem open_codes (s:Int) (zs:List Int):(openF s zs).2=0\/(openF s zs).2=1\/(openF s zs).2=4\/(openF s zs).2=12:=by
 unfold openF
 split
 ·simp
 ·split
  ·simp
  ·split<;>simp
theorem held_codes (h:heldF me s zs=(st,e)):0<=e/\e<=16:=by
 unfold heldF at h
 split at h
 ·split at h
  ·split at h<;>cases h<;>decide
  ·have:=open_codes s zs
   have he:=(Prod.mk.inj h).2
   unfold readF at he
   have he:(openF s zs).2=e:=he
   omega
 ·cases h;decide
def tabA:CallT:=fun f args bx E K=>match f with
 | 39=>d2 args fun x0 x1=>(match x0 with | .loc s 0=>(dS x1 fun lb ln lc=>(match bx[s]? with |some ⟨50,.lst [.raw (.int .i64 me),.slc h 0 m cap,.raw (.int .i64 cnt)],3,true⟩=>∃ (tot:Nat) (xs:List (List Int)) (js:List Value) (ns:List Int),SL (RK .i64 1) E lb ln lc (ns.map fun z=>[z])/\StAt bx s h me cnt m cap tot xs js/\(∀ v∈js,v.oneCell'=true)/\(appF me (xs,cnt) ns=none->K (B false) bx E)/\(∀ c:Int,appF me (xs,cnt) ns=some (xs,c)->K (B true) (bx.set s ⟨50,.lst [I me,.slc h 0 m cap,I c],3,true⟩) E)/\(∀ (ys:List (List Int)) (c:Int) (cap' tot':Nat) (js':List Value),appF me (xs,cnt) ns=some (ys,c)->ys.length<=cap'->cap'*5<=tot'->(∀ v∈js',v.oneCell'=true)->W5 ys->ys.length<=16->K (B true) ((bx.set s ⟨50,.lst [I me,.slc bx.length 0 ys.length cap',I c],3,true⟩).set h ⟨26,.lst [],0,false⟩++[⟨26,.vals (vR ys++js'),tot',true⟩]) E)|_=>False))|_=>False)
 | _=>False
theorem tabA_ok (f:FuncId) (args:List SV) (bx:List Box) (E:Mem) (K:KT) (h:tabA f args bx E K):CallSem Tryz.prog f args bx E K:=by
 unfold tabA at h
 split at h
 ·replace h:=d2_elim h
  obtain ⟨x0,x1,rfl,h⟩:=h
  split at h
  case h_2=>exact h.elim
  replace h:=dS_elim h
  obtain ⟨lb,ln,lc,rfl,h⟩:=h
  split at h
  case h_2=>exact h.elim
  obtain ⟨tot,xs,js,ns,h1,h2,h3,h4,h5,h6⟩:=h
  exact apply_sem h1 h2 h3 h4 h5 h6
 ·exact h.elim
noncomputable def tab29u:FuncId->List SV->Mem->(SV->Mem->Prop)->Prop:=fun f args E K=>match f with
 | 37=>d1 args fun x0=>dC x0 fun l1=>d2 l1 fun x0_0 x0_1=>dI x0_0 fun a1=>dS x0_1 fun b2 l3 c4=>∃ (zs:List Int),Bs E b2 l3 c4 zs/\(∀ (b':Option Addr) (l' c':Nat) (yss:List (List Int)) (e:Int) (E':Mem),Mem.le E E'->Hyp (readF a1 zs=(yss,e))->BL E' b' l' c' yss->K (.tup [L b' l' c',I e]) E')
 | 38=>d1 args fun x0=>dS x0 fun b1 l2 c3=>∃ (zs:List Int),Bs E b1 l2 c3 zs/\l2<=100000/\((∀ E':Mem,Mem.le E E'->Hyp (numsF zs=none)->K (.tup [L none 0 0,B false]) E')/\∀ (xs:List Int) (b':Option Addr) (l' c':Nat) (E':Mem),Mem.le E E'->Hyp (numsF zs=some xs)->SL (RK .i64 1) E' b' l' c' (xs.map fun z=>[z])->K (.tup [L b' l' c',B true]) E')
 | _=>False
theorem tab29u_ok:TabOK Tryz.prog tab29u:=by
 intro f args E K h
 unfold tab29u at h
 split at h
 ·replace h:=d1_elim h
  obtain ⟨x0,rfl,h⟩:=h
  replace h:=dC_elim h
  obtain ⟨l1,hl1,h⟩:=h
  replace h:=d2_elim h
  obtain ⟨x0_0,x0_1,rfl,h⟩:=h
  replace h:=dI_elim h
  obtain ⟨a1,rfl,h⟩:=h
  replace h:=dS_elim h
  obtain ⟨b2,l3,c4,rfl,h⟩:=h
  obtain ⟨zs,g0,h⟩:=h
  exact TabSem.congr (valL_cons (asCells_val hl1) rfl) (Ent.sem okKI Tryz.func37 ⟨by kernel_rfl,by kernel_rfl⟩ rfl (j15 g0 h))
 ·replace h:=d1_elim h
  obtain ⟨x0,rfl,h⟩:=h
  replace h:=dS_elim h
  obtain ⟨b1,l2,c3,rfl,h⟩:=h
  obtain ⟨zs,g0,g1,h⟩:=h
  exact TabSem.congr (valL_cons rfl rfl) (Ent.sem okQ4 Tryz.func38 ⟨by kernel_rfl,by kernel_rfl⟩ rfl (c30 g0 g1 h))
 ·exact h.elim
noncomputable def QD:Cx:={ P:=Tryz.prog,inl:=fun f=>List.contains [36] f,tab:=tab29u,isB:=fun f=>f==39,tabB:=tabA,opt:={ unroll:=0,carry:=[31] },muts:=mutsD }
theorem okQD:CxOK QD:=CxOK.four tab29u_ok (by kernel_rfl) (okInl (by kernel_rfl)) tabA_ok
theorem fold_bad {n:Nat} (h:foldF me (ls.take n) st=none):foldF me ls st=none:=by
 conv=>lhs;rw [← List.take_append_drop n ls]
 rw [foldF_app,h];rfl
theorem held_bad (hm:0<=me/\me<=59) (h:readF s zs=(ls,0)) (q:foldF me ls ([],0)=none):heldF me s zs=(([],0),9):=by
 unfold heldF
 rw [if_pos hm,h,if_pos rfl]
 simp only [q]
def us19 (me cnt:Int) (b:Option Addr) (l c i m cap tot:Nat) (xs:List (List Int)) (js:List Value) (E:Mem):St:=⟨[none]++nn 7++[oc 0 0]++nn 20++[oL b l c,oI (l:Nat),oI (i:Nat)]++nn 19,[⟨50,.lst [I me,.slc 1 0 m cap,I cnt],3,true⟩,⟨26,.vals (vR xs++js),tot,true⟩],E⟩
theorem ur19 {cap:Nat} (hB:BL E b l c ls) (hl:l<=100000/\∀ d∈ls,d.length<65536) (hi:i<=l)
  (S:StAt [⟨50,.lst [I a1,.slc 1 0 m cap,I cnt],3,true⟩,⟨26,.vals (vR xs++js),tot,true⟩] 0 1 a1 cnt m cap tot xs js) (hj:∀ v∈js,v.oneCell'=true) (hm:0<=a1/\a1<=59) (hr:readF s zs=(ls,0)) (hf:foldF a1 (ls.take i) ([],0)=some (xs,cnt)) (hE0:Mem.le E0 E)
  (hE:∀ (e:Int) (E':Mem),Mem.le E0 E'->heldF a1 s zs=(([],0),e)->e≠0->KK (.tup [.raw (.pointer none),.ifc 29 (I e)]) [] E') (hS:∀ (xs:List (List Int)) (cnt:Int) (m cap tot:Nat) (js:List Value) (E':Mem),Mem.le E0 E'->heldF a1 s zs=((xs,cnt),0)->StAt [⟨50,.lst [I a1,.slc 1 0 m cap,I cnt],3,true⟩,⟨26,.vals (vR xs++js),tot,true⟩] 0 1 a1 cnt m cap tot xs js->(∀ v∈js,v.oneCell'=true)->KK (.tup [.loc 0 0,.raw .nilIface]) [⟨50,.lst [I a1,.slc 1 0 m cap,I cnt],3,true⟩,⟨26,.vals (vR xs++js),tot,true⟩] E') (hQ:∀ s bx' E',cloK 0 KK s bx' E'->Q s bx' E')
  (ih:i<l->∀ (xs:List (List Int)) (cnt:Int) (m cap tot:Nat) (js:List Value) (E':Mem),Mem.le E E'->StAt [⟨50,.lst [I a1,.slc 1 0 m cap,I cnt],3,true⟩,⟨26,.vals (vR xs++js),tot,true⟩] 0 1 a1 cnt m cap tot xs js->(∀ v∈js,v.oneCell'=true)->foldF a1 (ls.take (i+1)) ([],0)=some (xs,cnt)->Lp QD 8 Tryz.f16 [1,1,1,1,1,0,1,0] 0 Q (us19 a1 cnt b l c (i+1) m cap tot xs js E')):Rnd QD 8 Tryz.f16 [1,1,1,1,1,0,1,0] 0 Q (us19 a1 cnt b l c i m cap tot xs js E):=by
 refine sm_ (?_:bif decide ((NI i)<(NI l)) then req (0<=(NI i)/\(NI i)<(NI l)) (nE E b l c/\∃ (base:Option Addr),∃ (len:Nat),∃ (cap_1:Nat),LoadE QD.P E 22 (VS b l c) (Int.toNat (NI i)*1) (L base len cap_1)/\∃ (zs:List Int),Bs E base len cap_1 zs/\len<=100000/\(∀ (E':Mem),Mem.le E E'->Hyp (numsF zs=none)->Mem.le E E'/\Q (SV.tup [SV.raw (Value.pointer none),SV.ifc 29 (I 9)]) [⟨50,.lst [I a1,SV.slc 1 0 m cap,I cnt],3,true⟩,⟨26,.vals (vR xs++js),tot,true⟩] E')/\∀ (xs_1:List Int) (b':Option Addr) (l' c':Nat) (E':Mem),Mem.le E E'->Hyp (numsF zs=some xs_1)->SL (RK IntKind.i64 1) E' b' l' c' (List.map (fun (z:Int)=>[z]) xs_1)->Mem.le E E'/\∃ (tot_1:Nat),∃ (xs_2:List (List Int)),∃ (js_1:List Value),∃ (ns:List Int),SL (RK IntKind.i64 1) E' b' l' c' (List.map (fun (z:Int)=>[z]) ns)/\StAt [⟨50,.lst [I a1,SV.slc 1 0 m cap,I cnt],3,true⟩,⟨26,.vals (vR xs++js),tot,true⟩] 0 1 a1 cnt m cap tot_1 xs_2 js_1/\(∀ (v:Value),List.Mem v js_1->Value.oneCell' v=true)/\(appF a1 (xs_2,cnt) ns=none->Q (SV.tup [SV.raw (Value.pointer none),SV.ifc 29 (I 9)]) [⟨50,.lst [I a1,SV.slc 1 0 m cap,I cnt],3,true⟩,⟨26,.vals (vR xs++js),tot,true⟩] E')/\(∀ (c_1:Int),appF a1 (xs_2,cnt) ns=some (xs_2,c_1)->Lp QD 8 Tryz.f16 [1,1,1,1,1,0,1,0] 0 Q { fr:=no8 (oc 0 0::no16 (no4 (oL b l c::oI (NI l)::oI (WI ((NI i)+1))::no16 (no2 (none::[]))))),bx:=[(⟨50,.lst [I a1,SV.slc 1 0 m cap,I c_1],3,true⟩:Box),⟨26,.vals (vR xs++js),tot,true⟩],E:=E':St })/\∀ (ys:List (List Int)) (c_1:Int) (cap' tot':Nat) (js':List Value),appF a1 (xs_2,cnt) ns=some (ys,c_1)->List.length ys<=cap'->cap'*5<=tot'->(∀ (v:Value),List.Mem v js'->Value.oneCell' v=true)->W5 ys->List.length ys<=16->Lp QD 8 Tryz.f16 [1,1,1,1,1,0,1,0] 0 Q { fr:=no8 (oc 0 0::no16 (no4 (oL b l c::oI (NI l)::oI (WI ((NI i)+1))::no16 (no2 (none::[]))))),bx:=[(⟨50,.lst [I a1,SV.slc 2 0 (List.length ys) cap',I c_1],3,true⟩:Box),⟨26,.lst [],0,false⟩,⟨26,.vals (vR ys++js'),tot',true⟩],E:=E':St }) else Q (SV.tup [SV.loc 0 0,SV.raw Value.nilIface]) [⟨50,.lst [I a1,SV.slc 1 0 m cap,I cnt],3,true⟩,⟨26,.vals (vR xs++js),tot,true⟩] E)
 delta WI NI VS no2 no4 no8 no16
 have bad:foldF a1 (ls.take (i+1)) ([],0)=none->∀ (bx:List Box) (E1:Mem),Mem.le E E1->Q (.tup [.raw (.pointer none),.ifc 29 (I 9)]) bx E1:=fun q bx E1 k=>hQ _ _ _ (cloK_intro [] (hE 9 E1 (mt_ hE0 k) (held_bad hm hr (fold_bad q)) (by decide)) (wkG mr_))
 have nl:=hB.len
 refine condC (fun g=>?_) (fun g=>?_)
 ·have g:i<l:=by simpa using g
  obtain ⟨d,hd⟩:∃ d,ls[i]? =some d:=⟨_,List.getElem?_eq_getElem (by omega)⟩
  obtain ⟨x1,b2,l2,c2,x2,x3⟩:=hB.load hd
  have dl:=hl.2 d (List.mem_of_getElem? hd)
  have st:foldF a1 (ls.take (i+1)) ([],0)=(match numsF d with |none=>none|some n=>appF a1 (xs,cnt) n):=by
   rw [take_get' hd,foldF_app,hf]
   simp only [Option.bind_some,foldF]
   cases q:numsF d with
   | none=>rfl
   | some n=>
    dsimp only
    cases q2:appF a1 (xs,cnt) n<;>rfl
  rw [wrap_i64 (x:=(i:Int)+1) (by omega)]
  refine req_intro (by omega) ⟨x1,b2,l2,c2,x2,d,x3,by have:=x3.2.1;omega,fun E1 k1 q=>⟨k1,bad (by rw [st,show numsF d=none from q]) _ _ k1⟩,fun ns b3 l3 c3 E1 k1 q hI=>⟨k1,tot,xs,js,ns,hI,S,hj,fun q2=>bad (by rw [st,show numsF d=some ns from q];exact q2) _ _ k1,fun c2' q2=>?_,fun ys c2' cap' tot' js' q2 q3 q4 q5 q6 q7=>?_⟩⟩
  ·exact Lp_re [some 0,some 1] (ih g xs c2' m cap tot js E1 k1 ⟨rfl,rfl,S.ne,S.w5,S.len,S.le,S.room⟩ hj (by rw [st,show numsF d=some ns from q];exact q2)) (wkG mr_)
  ·exact Lp_re [some 0,some 2] (ih g ys c2' ys.length cap' tot' js' E1 k1 ⟨rfl,rfl,by decide,q6,rfl,q7,q3,q4⟩ q5 (by rw [st,show numsF d=some ns from q];exact q2)) (wkG mr_)
 ·have g:¬ i<l:=by simpa using g
  rw [List.take_of_length_le (by omega)] at hf
  exact hQ _ _ _ (cloK_intro [some 0,some 1] (hS xs cnt m cap tot js E hE0 (held_of hm hr hf) S hj) (wkG mr_))
theorem ul19 {E:Mem} {a1 cnt s:Int} {zs:List Int} {b:Option Addr} {l c m cap tot:Nat} {xs:List (List Int)} {js:List Value} {ls:List (List Int)} {KK Q:KT} {E0:Mem} (hB:BL E b l c ls) (hl:l<=100000/\∀ d∈ls,d.length<65536) (hm:0<=a1/\a1<=59) (hr:readF s zs=(ls,0)) (hE0:Mem.le E0 E)
  (hE:∀ (e:Int) (E':Mem),Mem.le E0 E'->heldF a1 s zs=(([],0),e)->e≠0->KK (.tup [.raw (.pointer none),.ifc 29 (I e)]) [] E') (hS:∀ (xs:List (List Int)) (cnt:Int) (m cap tot:Nat) (js:List Value) (E':Mem),Mem.le E0 E'->heldF a1 s zs=((xs,cnt),0)->StAt [⟨50,.lst [I a1,.slc 1 0 m cap,I cnt],3,true⟩,⟨26,.vals (vR xs++js),tot,true⟩] 0 1 a1 cnt m cap tot xs js->(∀ v∈js,v.oneCell'=true)->KK (.tup [.loc 0 0,.raw .nilIface]) [⟨50,.lst [I a1,.slc 1 0 m cap,I cnt],3,true⟩,⟨26,.vals (vR xs++js),tot,true⟩] E') (hQ:∀ s bx' E',cloK 0 KK s bx' E'->Q s bx' E'):∀ {r i:Nat},i+r=l->StAt [⟨50,.lst [I a1,.slc 1 0 m cap,I cnt],3,true⟩,⟨26,.vals (vR xs++js),tot,true⟩] 0 1 a1 cnt m cap tot xs js->(∀ v∈js,v.oneCell'=true)->foldF a1 (ls.take i) ([],0)=some (xs,cnt)->Lp QD 8 Tryz.f16 [1,1,1,1,1,0,1,0] 0 Q (us19 a1 cnt b l c i m cap tot xs js E)
 | 0,i,hi,S,hj,hf=>Lp_ind (ι:=Unit) okQD (fun _=>us19 a1 cnt b l c i m cap tot xs js E) (fun _=>0) (fun _ _=>ur19 hB hl (by omega) S hj hm hr hf hE0 hE hS hQ (fun g=>by omega)) ()
 | r+1,i,hi,S,hj,hf=>Lp_ind (ι:=Unit) okQD (fun _=>us19 a1 cnt b l c i m cap tot xs js E) (fun _=>0) (fun _ _=>ur19 hB hl (by omega) S hj hm hr hf hE0 hE hS hQ (fun g xs cnt m cap tot js E1 k S hj hf=>ul19 (hB.mono RB_ok k) hl hm hr (mt_ hE0 k) hE hS hQ (r:=r) (i:=i+1) (by omega) S hj hf)) ()
theorem u19 (hB:Bs E b l c zs) (hE:∀ (e:Int) (E':Mem),Mem.le E E'->heldF a1 s zs=(([],0),e)->e≠0->KK (.tup [.raw (.pointer none),.ifc 29 (I e)]) [] E') (hS:∀ (xs:List (List Int)) (cnt:Int) (m cap tot:Nat) (js:List Value) (E':Mem),Mem.le E E'->heldF a1 s zs=((xs,cnt),0)->StAt [⟨50,.lst [I a1,.slc 1 0 m cap,I cnt],3,true⟩,⟨26,.vals (vR xs++js),tot,true⟩] 0 1 a1 cnt m cap tot xs js->(∀ v∈js,v.oneCell'=true)->KK (.tup [.loc 0 0,.raw .nilIface]) [⟨50,.lst [I a1,.slc 1 0 m cap,I cnt],3,true⟩,⟨26,.vals (vR xs++js),tot,true⟩] E') (hQ:∀ s bx' E',cloK 0 KK s bx' E'->Q s bx' E'):
  EntB QD 8 Tryz.f16 [.agg [I s,L b l c],I a1] [] E Q:=by
 refine sm_ (?_:bif decide (a1>=(0:Int)) then Mem.le E E/\bif !bif true then decide (a1<=(59:Int)) else false then Q (SV.tup [SV.raw (Value.pointer none),SV.ifc 29 (I 1)]) [⟨24,.lst [I s,L b l c],2,true⟩] E else ∃ (zs:List Int),Bs E b l c zs/\∀ (b':Option Addr) (l' c':Nat) (yss:List (List Int)) (e:Int) (E':Mem),Mem.le E E'->Hyp (((openF s zs).fst.fst,(openF s zs).snd)=(yss,e))->BL E' b' l' c' yss->Mem.le E E'/\bif e !=(0:Int) then Q (SV.tup [SV.raw (Value.pointer none),SV.ifc 29 (I e)]) [⟨24,.lst [I s,L b l c],2,true⟩] E' else Lp QD 8 Tryz.f16 [1,1,1,1,1,0,1,0] 0 Q { fr:=some (SV.agg [I s,L b l c])::oI a1::oc 0 0::none::none::none::oL b' l' c'::oI e::oc 1 0::none::none::none::none::oI a1::oB (bif true then decide (a1<=(59:Int)) else false)::oB (!bif true then decide (a1<=(59:Int)) else false)::none::some (SV.tup [L b' l' c',I e])::some (SV.agg [I s,L b l c])::some (SV.tup [L b' l' c',I e])::oL b' l' c'::oI e::oI e::oB (e !=(0:Int))::none::none::oI a1::some (SV.agg [I a1,L none 0 0,I 0])::oc 1 0::oL b' l' c'::oI (NI l')::oI 0::no16 (no2 (none::[])),bx:=[(⟨24,.lst [I s,L b l c],2,true⟩:Box),⟨50,.lst [I a1,L none 0 0,I 0],3,true⟩],E:=E':St } else Mem.le E E/\Q (SV.tup [SV.raw (Value.pointer none),SV.ifc 29 (I 1)]) [⟨24,.lst [I s,L b l c],2,true⟩] E)
 delta NI no2 no16
 have bz:=hB.2.2.2.1
 have bad:¬ (0<=a1/\a1<=59)->∀ bx:List Box,Q (.tup [.raw (.pointer none),.ifc 29 (I 1)]) bx E:=fun q bx=>hQ _ _ _ (cloK_intro [] (hE 1 E mr_ (by unfold heldF;rw [if_neg q]) (by decide)) (wkG mr_))
 refine condC (fun g=>⟨mr_,condC (fun g2=>bad (fun q=>by simp at g2;omega) _) (fun g2=>?_)⟩) (fun g=>⟨mr_,bad (fun q=>by simp at g;omega) _⟩)
 have hm:0<=a1/\a1<=59:=by simp at g g2;omega
 refine ⟨zs,hB,fun b' l' c' yss e E1 k1 r1 B1=>⟨k1,?_⟩⟩
 have r1:readF s zs=(yss,e):=r1
 refine condC (fun q=>?_) (fun q=>?_)
 ·have q:e≠0:=by simpa using q
  exact hQ _ _ _ (cloK_intro [] (hE e E1 k1 (by unfold heldF;rw [if_pos hm,r1,if_neg q]) q) (wkG mr_))
 ·have q:e=0:=by simpa using q
  subst q
  have rs:=read_size (s:=s) bz
  have e1:(openF s zs).1.1=yss:=(eq2 r1).1
  rw [e1] at rs
  have nl:=B1.len
  exact Lp_re [some 1,none] (ul19 (xs:=[]) (js:=[]) (m:=0) (cap:=0) (tot:=0) B1 ⟨by omega,fun d hd=>(rs.2 d hd).1⟩ hm r1 k1 hE hS hQ (r:=l') (i:=0) (by omega) ⟨rfl,rfl,by decide,(fun x hx=>nomatch hx),rfl,by decide,by decide,by decide⟩ (fun v hv=>nomatch hv) rfl) (wkH mr_)
theorem open_sem {K:KT} (hB:Bs E b l c zs) (hE:(∀ (e:Int) (E':Mem),Mem.le E E'->Hyp (heldF me s zs=(([],0),e))->Hyp (e≠0)->K (.tup [.raw (.pointer none),.ifc 29 (I e)]) bx E')) (hS:(∀ (xs:List (List Int)) (cnt:Int) (m cap tot:Nat) (js:List Value) (E':Mem),Mem.le E E'->Hyp (heldF me s zs=((xs,cnt),0))->StAt (bx++[⟨50,.lst [I me,.slc (bx.length+1) 0 m cap,I cnt],3,true⟩,⟨26,.vals (vR xs++js),tot,true⟩]) bx.length (bx.length+1) me cnt m cap tot xs js->(∀ v∈js,v.oneCell'=true)->K (.tup [.loc bx.length 0,.raw .nilIface]) (bx++[⟨50,.lst [I me,.slc (bx.length+1) 0 m cap,I cnt],3,true⟩,⟨26,.vals (vR xs++js),tot,true⟩]) E')):CallSem Tryz.prog 16 [.agg [I s,L b l c],I me] bx E K:=by
 refine frame0 (vs:=[_,_]) rfl (EntB.sem okQD Tryz.func16 ⟨by kernel_rfl,by kernel_rfl⟩ (u19 (KK:=fun s bx' E'=>K (s.ren [] bx.length) (bx++bx'.map (Box.ren [] bx.length)) E') hB ?_ ?_ (fun _ _ _ q=>q))).clo (fun _ _ _ q=>q)
 ·intro e E' k q1 q2
  simpa [SV.ren,SV.renL] using hE e E' k q1 q2
 ·intro xs cnt m cap tot js E' k q1 S hj
  have:=hS xs cnt m cap tot js E' k q1 ⟨by simp,by simp,by omega,S.w5,S.len,S.le,S.room⟩ hj
  simpa [SV.ren,SV.renL,Box.ren,Row.ren,renF,Nat.add_comm] using this
theorem vR_winJ {base:Option Addr} {ys:List (List Int)} {cap:Nat} (h5:W5 ys) (hm:ys.length=m) (hc:m<=cap) (w:WinE E base (vR ys++js)):SL (RK .i64 5) E (base.map fun x=>x.add 0) m cap ys:=by
 have hl:=vR_len h5
 have e:ys.length=(ys.map fun x:List Int=>x.map (Value.int .i64)).length:=by simp
 refine ⟨ys.map fun x:List Int=>x.map (Value.int .i64),SLr_RK h5,hm,hc,.inr ?_,fun q=>?_⟩
 ·have:=w.2 0 (vR ys).length m cap (by simp)
  simp only [List.drop_zero] at this
  rw [List.take_left] at this
  have fm:(ys.map fun x:List Int=>x.map (Value.int .i64)).flatten=vR ys:=(show vR ys=_ from flat_map).symm
  rw [fm];exact this
 ·cases base with
  | none=>
   have:=w.1 rfl
   have:=congrArg List.length this
   rw [List.length_append,hl] at this
   simp at this;omega
  | some a=>cases q
def tab19:CallT:=fun f args bx E K=>match f with
 | 16=>(match args with | [.agg [.raw (.int .i64 s),.raw (.slice b l c)],.raw (.int .i64 me)]=>∃ zs:List Int,Bs E b l c zs/\(∀ (e:Int) (E':Mem),Mem.le E E'->Hyp (heldF me s zs=(([],0),e))->Hyp (e≠0)->K (.tup [.raw (.pointer none),.ifc 29 (I e)]) bx E')/\(∀ (xs:List (List Int)) (cnt:Int) (m cap tot:Nat) (js:List Value) (E':Mem),Mem.le E E'->Hyp (heldF me s zs=((xs,cnt),0))->StAt (bx++[⟨50,.lst [I me,.slc (bx.length+1) 0 m cap,I cnt],3,true⟩,⟨26,.vals (vR xs++js),tot,true⟩]) bx.length (bx.length+1) me cnt m cap tot xs js->(∀ v∈js,v.oneCell'=true)->K (.tup [.loc bx.length 0,.raw .nilIface]) (bx++[⟨50,.lst [I me,.slc (bx.length+1) 0 m cap,I cnt],3,true⟩,⟨26,.vals (vR xs++js),tot,true⟩]) E')|_=>False)
 | _=>False
theorem tab19_ok (f:FuncId) (args:List SV) (bx:List Box) (E:Mem) (K:KT) (h:tab19 f args bx E K):CallSem Tryz.prog f args bx E K:=by
 unfold tab19 at h
 split at h
 ·split at h
  case h_2=>exact h.elim
  obtain ⟨zs,h1,h2,h3⟩:=h
  exact open_sem h1 h2 h3
 ·exact h.elim
noncomputable def tab20u:FuncId->List SV->Mem->(SV->Mem->Prop)->Prop:=fun f args E K=>match f with
 | 17=>∃ e:Int,args=[.ifc 29 (I e)]/\(1<=e/\e<=16)/\K (I e) E
 | _=>False
theorem tab20u_ok:TabOK Tryz.prog tab20u:=by
 intro f args E K h
 unfold tab20u at h
 split at h
 ·obtain ⟨e,rfl,h1,h2⟩:=h
  exact Ent.sem okQC Tryz.func17 ⟨by kernel_rfl,by kernel_rfl⟩ rfl (s20w h1 h2)
 ·exact h.elim
noncomputable def QE:Cx:={ P:=Tryz.prog,inl:=fun f=>List.contains [] f,tab:=tab20u,isB:=fun f=>f==16,tabB:=tab19,opt:={ unroll:=0,carry:=[] },muts:=mutsD }
theorem okQE:CxOK QE:=CxOK.four tab20u_ok (by kernel_rfl) (okInl (by kernel_rfl)) tab19_ok
theorem c8 (h0:Bs E b2 l3 c4 zs) (h:∀ (b':Option Addr) (l' c':Nat) (xs:List (List Int)) (cnt e:Int) (E':Mem),Mem.le E E'->Hyp (heldF a5 a1 zs=((xs,cnt),e))->SL (RK .i64 5) E' b' l' c' xs->l'<=16->K (.tup [L b' l' c',I cnt,I e]) E'):
  Ent QE 8 Tryz.f5 [.agg [I a1,L b2 l3 c4],I a5] E K:=by
 refine sm_ (?_:∃ (zs:List Int),Bs E b2 l3 c4 zs/\(∀ (e:Int) (E':Mem),Mem.le E E'->Hyp (heldF a5 a1 zs=(([],(0:Int)),e))->Hyp (e≠(0:Int))->Mem.le E E'/\∃ (e_1:Int),[SV.ifc 29 (I e)]=[SV.ifc 29 (I e_1)]/\((1:Int)<=e_1/\e_1<=(16:Int))/\Mem.le E' E'/\Mem.le E E'/\K (SV.tup [L none 0 0,I (0:Int),I e_1]) E')/\∀ (xs:List (List Int)) (cnt:Int) (m cap tot:Nat) (js:List Value) (E':Mem),Mem.le E E'->Hyp (heldF a5 a1 zs=((xs,cnt),(0:Int)))->StAt [⟨50,Row.lst [I a5,SV.slc 1 0 m cap,I cnt],3,true⟩,⟨26,Row.vals (vR xs++js),tot,true⟩] 0 1 a5 cnt m cap tot xs js->(∀ (v:Value),List.Mem v js->Value.oneCell' v=true)->Mem.le E E'/\∀ (base:Option Addr) (E'_1:Mem),Mem.le E' E'_1->WinE E'_1 base (vR xs++js)->Mem.le E E'_1/\K (SV.tup [L (Option.map (fun (x:Addr)=>Addr.add x 0) base) m cap,I cnt,I (0:Int)]) E'_1)
 refine ⟨zs,h0,fun e E' k q1 q2=>⟨k,e,rfl,?_,mr_,k,h none 0 0 [] 0 e E' k q1 SL.nil (by decide)⟩,fun xs cnt m cap tot js E' k q1 S hj=>⟨k,fun base E2 k2 w=>⟨mt_ k k2,h _ m cap xs cnt 0 E2 (mt_ k k2) q1 (vR_winJ S.w5 S.len S.room.1 w) S.le⟩⟩⟩
 have:=held_codes q1
 have q2:e≠0:=q2
 omega
noncomputable def tab23u:FuncId->List SV->Mem->(SV->Mem->Prop)->Prop:=fun f args E K=>match f with
 | 47=>d2 args fun x0 x1=>dC x0 fun l1=>d2 l1 fun x0_0 x0_1=>dI x0_0 fun a1=>dS x0_1 fun b2 l3 c4=>dS x1 fun b5 l6 c7=>∃ (zs:List Int) (ds:List Int),Bs E b2 l3 c4 zs/\Bs E b5 l6 c7 ds/\l6<=60000/\(∀ (b':Option Addr) (l' c':Nat) (ms:List (Int×List Int)) (e:Int) (E':Mem),Mem.le E E'->Hyp (appendF a1 zs ds=(ms,e))->FL E' b' l' c' ms->K (.tup [L b' l' c',I e]) E')
 | 48=>d2 args fun x0 x1=>dC x0 fun l1=>d2 l1 fun x0_0 x0_1=>dI x0_0 fun a1=>dS x0_1 fun b2 l3 c4=>dS x1 fun b5 l6 c7=>∃ (zs:List Int) (keep:List (List Int)),Bs E b2 l3 c4 zs/\BL E b5 l6 c7 keep/\(∀ d∈keep,d.length<=60000)/\l6<=1000/\(∀ (b':Option Addr) (l' c':Nat) (ms:List (Int×List Int)) (e:Int) (E':Mem),Mem.le E E'->Hyp (compactF a1 zs keep=(ms,e))->FL E' b' l' c' ms->K (.tup [L b' l' c',I e]) E')
 | 38=>d1 args fun x0=>dS x0 fun b1 l2 c3=>∃ (zs:List Int),Bs E b1 l2 c3 zs/\l2<=100000/\((∀ E':Mem,Mem.le E E'->Hyp (numsF zs=none)->K (.tup [L none 0 0,B false]) E')/\∀ (xs:List Int) (b':Option Addr) (l' c':Nat) (E':Mem),Mem.le E E'->Hyp (numsF zs=some xs)->SL (RK .i64 1) E' b' l' c' (xs.map fun z=>[z])->K (.tup [L b' l' c',B true]) E')
 | 24=>d1 args fun x0=>dC x0 fun l1=>d5 l1 fun x0_0 x0_1 x0_2 x0_3 x0_4=>dI x0_0 fun a1=>dI x0_1 fun a2=>dI x0_2 fun a3=>dI x0_3 fun a4=>dI x0_4 fun a5=>(∀ (b':Option Addr) (l' c':Nat) (ys:List Int) (E':Mem),Mem.le E E'->Hyp (ys=recB [1,a1,a2,a3,a4,a5])->Bs E' b' l' c' ys->K (L b' l' c') E')
 | 32=>d1 args fun x0=>dS x0 fun b1 l2 c3=>∃ (zs:List Int),SL (RK .i64 1) E b1 l2 c3 (zs.map fun z=>[z])/\l2<=100/\(∀ (b':Option Addr) (l' c':Nat) (ys:List Int) (E':Mem),Mem.le E E'->Hyp (ys=recB zs)->Bs E' b' l' c' ys->K (L b' l' c') E')
 | _=>False
theorem tab23u_ok:TabOK Tryz.prog tab23u:=by
 intro f args E K h
 unfold tab23u at h
 split at h
 ·replace h:=d2_elim h
  obtain ⟨x0,x1,rfl,h⟩:=h
  replace h:=dC_elim h
  obtain ⟨l1,hl1,h⟩:=h
  replace h:=d2_elim h
  obtain ⟨x0_0,x0_1,rfl,h⟩:=h
  replace h:=dI_elim h
  obtain ⟨a1,rfl,h⟩:=h
  replace h:=dS_elim h
  obtain ⟨b2,l3,c4,rfl,h⟩:=h
  replace h:=dS_elim h
  obtain ⟨b5,l6,c7,rfl,h⟩:=h
  obtain ⟨zs,ds,g0,g1,g2,h⟩:=h
  exact TabSem.congr (valL_cons (asCells_val hl1) (valL_cons rfl rfl)) (Ent.sem okKI Tryz.func47 ⟨by kernel_rfl,by kernel_rfl⟩ rfl (j17 g0 g1 g2 h))
 ·replace h:=d2_elim h
  obtain ⟨x0,x1,rfl,h⟩:=h
  replace h:=dC_elim h
  obtain ⟨l1,hl1,h⟩:=h
  replace h:=d2_elim h
  obtain ⟨x0_0,x0_1,rfl,h⟩:=h
  replace h:=dI_elim h
  obtain ⟨a1,rfl,h⟩:=h
  replace h:=dS_elim h
  obtain ⟨b2,l3,c4,rfl,h⟩:=h
  replace h:=dS_elim h
  obtain ⟨b5,l6,c7,rfl,h⟩:=h
  obtain ⟨zs,keep,g0,g1,g2,g3,h⟩:=h
  exact TabSem.congr (valL_cons (asCells_val hl1) (valL_cons rfl rfl)) (Ent.sem okKJ Tryz.func48 ⟨by kernel_rfl,by kernel_rfl⟩ rfl (j19 g0 g1 g2 g3 h))
 ·replace h:=d1_elim h
  obtain ⟨x0,rfl,h⟩:=h
  replace h:=dS_elim h
  obtain ⟨b1,l2,c3,rfl,h⟩:=h
  obtain ⟨zs,g0,g1,h⟩:=h
  exact TabSem.congr (valL_cons rfl rfl) (Ent.sem okQ4 Tryz.func38 ⟨by kernel_rfl,by kernel_rfl⟩ rfl (c30 g0 g1 h))
 ·replace h:=d1_elim h
  obtain ⟨x0,rfl,h⟩:=h
  replace h:=dC_elim h
  obtain ⟨l1,hl1,h⟩:=h
  replace h:=d5_elim h
  obtain ⟨x0_0,x0_1,x0_2,x0_3,x0_4,rfl,h⟩:=h
  replace h:=dI_elim h
  obtain ⟨a1,rfl,h⟩:=h
  replace h:=dI_elim h
  obtain ⟨a2,rfl,h⟩:=h
  replace h:=dI_elim h
  obtain ⟨a3,rfl,h⟩:=h
  replace h:=dI_elim h
  obtain ⟨a4,rfl,h⟩:=h
  replace h:=dI_elim h
  obtain ⟨a5,rfl,h⟩:=h
  exact TabSem.congr (valL_cons (asCells_val hl1) rfl) (Ent.sem okQ3 Tryz.func24 ⟨by kernel_rfl,by kernel_rfl⟩ rfl (c24 h))
 ·replace h:=d1_elim h
  obtain ⟨x0,rfl,h⟩:=h
  replace h:=dS_elim h
  obtain ⟨b1,l2,c3,rfl,h⟩:=h
  obtain ⟨zs,g0,g1,h⟩:=h
  exact TabSem.congr (valL_cons rfl rfl) (Ent.sem okQ2 Tryz.func32 ⟨by kernel_rfl,by kernel_rfl⟩ rfl (c25 g0 g1 h))
 ·exact h.elim
noncomputable def QF:Cx:={ P:=Tryz.prog,inl:=fun f=>List.contains [] f,tab:=tab23u,isB:=fun f=>f==39,tabB:=tabA,opt:={ unroll:=0,carry:=[12,57],cuts:=[10] },muts:=(fun o=>match o with | .buildSlice .. =>true| .alloc .. =>true|o=>mutsD o) }
theorem okQF:CxOK QF:=CxOK.four tab23u_ok (by kernel_rfl) (okInl (by kernel_rfl)) tabA_ok
def sW (me cnt s:Int) (b:Option Addr) (l c m cap tot n kcap ktot:Nat) (xs:List (List Int)) (js rs:List Value) (E:Mem):St:=⟨[oc 0 0,none,none,none,oc 3 0]++nn 7++[os 4 0 n kcap]++nn 59,[⟨50,.lst [I me,.slc 2 0 m cap,I cnt],3,true⟩,⟨26,.lst [],0,false⟩,⟨26,.vals (vR xs++js),tot,true⟩,⟨24,.lst [I s,L b l c],2,true⟩,⟨22,.vals rs,ktot,true⟩],E⟩
def sWl (me cnt s:Int) (b:Option Addr) (l c m cap tot n kcap ktot i:Nat) (xs:List (List Int)) (js rs:List Value) (E:Mem):St:=⟨[none,none,none,none,oc 3 0]++nn 7++[os 4 0 n kcap]++nn 42++[os 2 0 m cap,oI (m:Nat),oI (i:Nat)]++nn 14,[⟨50,.lst [I me,.slc 2 0 m cap,I cnt],3,true⟩,⟨26,.lst [],0,false⟩,⟨26,.vals (vR xs++js),tot,true⟩,⟨24,.lst [I s,L b l c],2,true⟩,⟨22,.vals rs,ktot,true⟩],E⟩
theorem ur23 {cap n:Nat} (hB:Bs E b l c zs) (w5:W5 xs) (hx:xs.length=m) (hm:m<=16) (hc:m<=cap/\cap*5<=tot) (hR:SLr RB E rr want) (hrs:rs=rr.flatten) (hn:want.length=n/\n<=kcap/\kcap*1<=ktot) (hs:∀ d∈want,d.length<=60000) (hE0:Mem.le E0 E) (h:∀ (b':Option Addr) (l' c':Nat) (ms:List (Int×List Int)) (e:Int) (E':Mem),Mem.le E0 E'->Hyp (compactF s zs full=(ms,e))->FL E' b' l' c' ms->KK (.tup [L b' l' c',I e]) [⟨50,.lst [],0,false⟩,⟨26,.lst [],0,false⟩] E') (hQ:∀ s bx' E',cloK 2 KK s bx' E'->Q s bx' E') (hn2:n<=i+1) (hi:i<=m) (hf:full=want++(xs.drop i).map fun r=>recB (1::r))
  (ih:i<m->∀ (n kcap ktot:Nat) (rs:List Value) (rr:List (List Value)) (want:List (List Int)) (E':Mem),Mem.le E E'->SLr RB E' rr want->rs=rr.flatten->(want.length=n/\n<=kcap/\kcap*1<=ktot)->n<=i+2->(∀ d∈want,d.length<=60000)->full=want++(xs.drop (i+1)).map (fun r=>recB (1::r))->Lp QF 8 Tryz.f23 [1,1,1,1,1,1,0,1,0] 2 Q (sWl me cnt s b l c m cap tot n kcap ktot (i+1) xs js rs E')):
  Rnd QF 8 Tryz.f23 [1,1,1,1,1,1,0,1,0] 2 Q (sWl me cnt s b l c m cap tot n kcap ktot i xs js rs E):=by
 refine sm_ (?_:bif decide ((NI i)<(NI m)) then req (0<=(NI i)/\(NI i)<(NI m)) (∃ (n_1:Int),∃ (n_2:Int),∃ (n_3:Int),∃ (n_4:Int),∃ (n_5:Int),LoadV QF.P 26 (vR xs++js) (0+Int.toNat (NI i)*5) (SV.agg [I n_1,I n_2,I n_3,I n_4,I n_5])/\∀ (b':Option Addr) (l' c':Nat) (ys:List Int) (E':Mem),Mem.le E E'->Hyp (ys=recB [(1:Int),n_1,n_2,n_3,n_4,n_5])->Bs E' b' l' c' ys->Mem.le E E'/\n*1<=List.length (Row.cells (Row.vals rs))/\kcap*1<=ktot/\n<=kcap/\req ((n+1)*24<=140737488355328) (∀ (cap' tot':Nat),n+1<=cap'->cap'*1<=tot'->Lp QF 8 Tryz.f23 [1,1,1,1,1,1,0,1,0] 2 Q { fr:=none::none::none::none::oc 3 0::no4 (no2 (none::(os 7 0 (n+1) cap'::no32 (no8 (no2 (os 2 0 m cap::oI (NI m)::oI (WI ((NI i)+1))::no8 (no4 (no2 [])))))))),bx:=[(⟨50,.lst [I me,SV.slc 2 0 m cap,I cnt],3,true⟩:Box),⟨26,.lst [],0,false⟩,⟨26,.vals (vR xs++js),tot,true⟩,⟨24,.lst [I s,L b l c],2,true⟩,⟨22,.lst [],0,false⟩,⟨26,.lst [I n_1,I n_2,I n_3,I n_4,I n_5],5,true⟩,⟨22,.lst [L b' l' c'],1,true⟩,⟨22,.vals (List.take (n*1) rs++[VS b' l' c']),tot',true⟩],E:=E':St })) else ∀ (base:Option Addr) (E':Mem),Mem.le E E'->WinE E' base rs->∃ (zs:List Int),∃ (keep:List (List Int)),Bs E' b l c zs/\BL E' (Option.map (fun (x:Addr)=>Addr.add x 0) base) n kcap keep/\(∀ (d:List Int),List.Mem d keep->List.length d<=60000)/\n<=1000/\∀ (b':Option Addr) (l' c':Nat) (ms:List (Int×List Int)) (e:Int) (E'_1:Mem),Mem.le E' E'_1->Hyp (compactF s zs keep=(ms,e))->FL E'_1 b' l' c' ms->Q (SV.tup [L b' l' c',I e]) [⟨50,.lst [I me,SV.slc 2 0 m cap,I cnt],3,true⟩,⟨26,.lst [],0,false⟩,⟨26,.vals (vR xs++js),tot,true⟩,⟨24,.lst [I s,L b l c],2,true⟩,⟨22,.vals rs,ktot,false⟩] E'_1)
 delta WI NI VS no2 no4 no8 no32
 have hw:=hR.flat RB_ok
 refine condC (fun g=>?_) (fun g=>?_)
 ·have g:i<m:=by simpa using g
  obtain ⟨x,hx'⟩:∃ x,xs[i]? =some x:=⟨_,List.getElem?_eq_getElem (by omega)⟩
  obtain ⟨o1,o2,o3,o4,o5,ex,lt⟩:=rd_V w5 hx'
  rw [show 0+Int.toNat (i:Int)*5=i*5 by rw [Int.toNat_natCast];omega,wrap_i64 (x:=(i:Int)+1) (by omega)]
  refine req_intro (by omega) ⟨o1,o2,o3,o4,o5,lt js,fun b' l' c' ys E1 k1 q1 q2=>⟨k1,?_,hn.2.2,hn.2.1,req_intro (by omega) fun cap' tot' r1 r2=>?_⟩⟩
  ·show n*1<=(rs.map SV.raw).length
   rw [List.length_map,hrs,hw];omega
  ·have q1:ys=recB (1::x):=by rw [ex];exact q1
   have fx:full=(want++[ys])++(xs.drop (i+1)).map fun r=>recB (1::r):=by
    obtain ⟨hi',ei⟩:=List.getElem?_eq_some_iff.1 hx'
    rw [hf,List.drop_eq_getElem_cons hi',ei,q1];simp
   have fr:List.take (n*1) rs++[Value.slice b' l' c']=(rr++[[Value.slice b' l' c']]).flatten:=by
    rw [List.take_of_length_le (by rw [hrs,hw];omega),hrs];simp
   exact Lp_re [some 0,some 1,some 2,some 3,some 7] (ih g (n+1) cap' tot' _ (rr++[[.slice b' l' c']]) (want++[ys]) E1 k1 ((hR.mono RB_ok k1).snoc ⟨_,_,_,rfl,q2⟩) fr ⟨by simp [hn.1],r1,r2⟩ (by omega) (fun d hd=>(List.mem_append.1 hd).elim (hs d) fun q=>by rw [List.mem_singleton.1 q,q1];have:=recB_len (1::x);rw [ex] at this ⊢;simp at this;omega) fx) (wkG mr_ (h6:=(by repeat' first|exact True.intro|exact rfl|exact Or.inl rfl|exact (by decide:1<8)|refine And.intro ?_ ?_)))
 ·have g:¬ i<m:=by simpa using g
  have e:full=want:=by rw [hf,List.drop_of_length_le (by omega)];simp
  exact fun base E1 k1 w=>⟨zs,want,hB.mono k1,SL.win RB_ok w hrs (hR.mono RB_ok k1) hn.1 hn.2.1,hs,by omega,fun b' l' c' ms e' E2 k2 q1 q2=>hQ _ _ _ (cloK_intro [some 0,some 1] (h b' l' c' ms e' E2 (mt_ hE0 (mt_ k1 k2)) (by rw [e];exact q1) q2) (wkG mr_ (h6:=(by repeat' first|exact True.intro|exact rfl|exact Or.inl rfl|exact (by decide:0<5)|exact (by decide:1<5)|refine And.intro ?_ ?_))))⟩
theorem ul23 {E:Mem} {me cnt s:Int} {zs:List Int} {b:Option Addr} {l c m cap tot n kcap ktot:Nat} {xs:List (List Int)} {js:List Value} {rs:List Value} {rr:List (List Value)} {want full:List (List Int)} {KK Q:KT} {E0:Mem} (hB:Bs E b l c zs) (w5:W5 xs) (hx:xs.length=m) (hm:m<=16) (hc:m<=cap/\cap*5<=tot) (hR:SLr RB E rr want) (hrs:rs=rr.flatten) (hn:want.length=n/\n<=kcap/\kcap*1<=ktot) (hs:∀ d∈want,d.length<=60000) (hE0:Mem.le E0 E) (h:∀ (b':Option Addr) (l' c':Nat) (ms:List (Int×List Int)) (e:Int) (E':Mem),Mem.le E0 E'->Hyp (compactF s zs full=(ms,e))->FL E' b' l' c' ms->KK (.tup [L b' l' c',I e]) [⟨50,.lst [],0,false⟩,⟨26,.lst [],0,false⟩] E') (hQ:∀ s bx' E',cloK 2 KK s bx' E'->Q s bx' E'):∀ {r i:Nat},i+r=m->n<=i+1->full=want++((xs.drop i).map fun r=>recB (1::r))->Lp QF 8 Tryz.f23 [1,1,1,1,1,1,0,1,0] 2 Q (sWl me cnt s b l c m cap tot n kcap ktot i xs js rs E)
 | 0,i,hi,h2,hf=>Lp_ind (ι:=Unit) okQF (fun _=>sWl me cnt s b l c m cap tot n kcap ktot i xs js rs E) (fun _=>0) (fun _ _=>ur23 hB w5 hx hm hc hR hrs hn hs hE0 h hQ h2 (by omega) hf (fun g=>by omega)) ()
 | r+1,i,hi,h2,hf=>Lp_ind (ι:=Unit) okQF (fun _=>sWl me cnt s b l c m cap tot n kcap ktot i xs js rs E) (fun _=>0) (fun _ _=>ur23 hB w5 hx hm hc hR hrs hn hs hE0 h hQ h2 (by omega) hf (fun g n kcap ktot rs rr want E1 k hR hrs hn h2 hs hf=>ul23 (hB.mono k) w5 hx hm hc hR hrs hn hs (mt_ hE0 k) h hQ (r:=r) (i:=i+1) (by omega) h2 hf)) ()
theorem pcW {cap n:Nat} (hB:Bs E b l c zs) (w5:W5 xs) (hx:xs.length=m) (hm:m<=16) (hc:m<=cap/\cap*5<=tot) (hR:SLr RB E rr want) (hrs:rs=rr.flatten) (hn:want.length=n/\n<=kcap/\kcap*1<=ktot) (hs:∀ d∈want,d.length<=60000) (hE0:Mem.le E0 E) (h:∀ (b':Option Addr) (l' c':Nat) (ms:List (Int×List Int)) (e:Int) (E':Mem),Mem.le E0 E'->Hyp (compactF s zs full=(ms,e))->FL E' b' l' c' ms->KK (.tup [L b' l' c',I e]) [⟨50,.lst [],0,false⟩,⟨26,.lst [],0,false⟩] E') (hQ:∀ s bx' E',cloK 2 KK s bx' E'->Q s bx' E') (hn2:n<=1) (hf:full=want++xs.map fun r=>recB (1::r)):
  Pc QF 8 Tryz.f23 [1,1,1,1,1,1] 2 Q (sW me cnt s b l c m cap tot n kcap ktot xs js rs E):=by
 refine sm_ (?_:Lp QF 8 Tryz.f23 [1,1,1,1,1,1,0,1,0] 2 Q { fr:=some (SV.loc 0 0)::none::none::none::oc 3 0::no4 (no2 (none::(os 4 0 n kcap::no32 (no4 (no2 (none::(oc 0 0::oc 0 0::oc 0 1::os 2 0 m cap::oI (NI m)::oI 0::no8 (no4 (no2 []))))))))),bx:=[(⟨50,.lst [I me,SV.slc 2 0 m cap,I cnt],3,true⟩:Box),⟨26,.lst [],0,false⟩,⟨26,.vals (vR xs++js),tot,true⟩,⟨24,.lst [I s,L b l c],2,true⟩,⟨22,.vals rs,ktot,true⟩],E:=E:St })
 delta NI no2 no4 no8 no32
 exact Lp_re [some 0,some 1,some 2,some 3,some 4] (ul23 hB w5 hx hm hc hR hrs hn hs hE0 h hQ (r:=m) (i:=0) (by omega) hn2 (by simpa using hf)) (wkG mr_ (h6:=(by repeat' first|exact True.intro|exact rfl|exact Or.inl rfl|exact (by decide:1<5)|refine And.intro ?_ ?_)))
theorem u23 {ds:List Int} {db:Option Addr} {dl dc cap:Nat} (hB:Bs E b l c zs) (hD:Bs E db dl dc ds) (hd:dl<=60000) (S:StAt [⟨50,.lst [I me,.slc 1 0 m cap,I cnt],3,true⟩,⟨26,.vals (vR xs++js),tot,true⟩] 0 1 me cnt m cap tot xs js) (hj:∀ v∈js,v.oneCell'=true) (h:∀ (b':Option Addr) (l' c':Nat) (ms:List (Int×List Int)) (e:Int) (E':Mem),Mem.le E E'->Hyp (writeF me s zs (xs,cnt) ds=(ms,e))->FL E' b' l' c' ms->KK (.tup [L b' l' c',I e]) [⟨50,.lst [],0,false⟩,⟨26,.lst [],0,false⟩] E')
  (hQ:∀ s bx' E',cloK 2 KK s bx' E'->Q s bx' E'):
  EntB QF 8 Tryz.f23 [.loc 0 0,.agg [I s,L b l c],L db dl dc] [⟨50,.lst [I me,.slc 1 0 m cap,I cnt],3,true⟩,⟨26,.vals (vR xs++js),tot,true⟩] E Q:=by
 refine sm_ (?_:∃ (zs:List Int),∃ (ds:List Int),Bs E b l c zs/\Bs E db dl dc ds/\dl<=60000/\∀ (b':Option Addr) (l' c':Nat) (ms:List (Int×List Int)) (e:Int) (E':Mem),Mem.le E E'->Hyp (appendF s zs ds=(ms,e))->FL E' b' l' c' ms->Mem.le E E'/\bif e !=(10:Int) then Q (SV.tup [L b' l' c',I e]) [⟨50,.lst [I me,SV.slc 1 0 m cap,I cnt],3,true⟩,⟨26,.vals (vR xs++js),tot,true⟩,⟨24,.lst [I s,L b l c],2,true⟩] E' else ∃ (zs:List Int),Bs E' db dl dc zs/\dl<=100000/\(∀ (E'_1:Mem),Mem.le E' E'_1->Hyp (numsF zs=none)->Mem.le E' E'_1/\Q (SV.tup [L none 0 0,I 9]) [⟨50,.lst [I me,SV.slc 1 0 m cap,I cnt],3,true⟩,⟨26,.vals (vR xs++js),tot,true⟩,⟨24,.lst [I s,L b l c],2,true⟩] E'_1)/\∀ (xs_1:List Int) (b'_1:Option Addr) (l'_1 c'_1:Nat) (E'_1:Mem),Mem.le E' E'_1->Hyp (numsF zs=some xs_1)->SL (RK IntKind.i64 1) E'_1 b'_1 l'_1 c'_1 (List.map (fun (z:Int)=>[z]) xs_1)->Mem.le E' E'_1/\∃ (tot_1:Nat),∃ (xs_2:List (List Int)),∃ (js_1:List Value),∃ (ns:List Int),SL (RK IntKind.i64 1) E'_1 b'_1 l'_1 c'_1 (List.map (fun (z:Int)=>[z]) ns)/\StAt [⟨50,.lst [I me,SV.slc 1 0 m cap,I cnt],3,true⟩,⟨26,.vals (vR xs++js),tot,true⟩,⟨24,.lst [I s,L b l c],2,true⟩] 0 1 me cnt m cap tot_1 xs_2 js_1/\(∀ (v:Value),List.Mem v js_1->Value.oneCell' v=true)/\(appF me (xs_2,cnt) ns=none->Q (SV.tup [L none 0 0,I 9]) [⟨50,.lst [I me,SV.slc 1 0 m cap,I cnt],3,true⟩,⟨26,.vals (vR xs++js),tot,true⟩,⟨24,.lst [I s,L b l c],2,true⟩] E'_1)/\(∀ (c_1:Int),appF me (xs_2,cnt) ns=some (xs_2,c_1)->bif decide (c_1>(0:Int)) then ∀ (base:Option Addr) (E':Mem),Mem.le E'_1 E'->WinE E' base [Value.int IntKind.i64 3,Value.int IntKind.i64 c_1]->∃ (zs:List Int),SL (RK IntKind.i64 1) E' (Option.map (fun (x:Addr)=>Addr.add x 0) base) 2 2 (List.map (fun (z:Int)=>[z]) zs)/\2<=100/\∀ (b'_2:Option Addr) (l'_2 c'_2:Nat) (ys:List Int) (E'_2:Mem),Mem.le E' E'_2->Hyp (ys=recB zs)->Bs E'_2 b'_2 l'_2 c'_2 ys->∀ (cap' tot':Nat),1<=cap'->cap'*1<=tot'->Ct QF 8 Tryz.f23 [1,1,1,1,1,1] 2 Q { fr:=some (SV.loc 0 0)::some (SV.agg [I s,L b l c])::oL db dl dc::none::oc 2 0::none::oL none 0 0::oI 0::oL b' l' c'::oI e::oL b'_1 l'_1 c'_1::oB true::os 5 0 1 cap'::none::none::some (SV.tup [L b' l' c',I e])::some (SV.agg [I s,L b l c])::oL db dl dc::some (SV.tup [L b' l' c',I e])::oL b' l' c'::oI e::oI e::oB (e !=(10:Int))::none::none::some (SV.tup [L b'_1 l'_1 c'_1,B true])::oL db dl dc::some (SV.tup [L b'_1 l'_1 c'_1,B true])::oL b'_1 l'_1 c'_1::oB true::oB true::oB false::oB false::oc 0 0::oL b'_1 l'_1 c'_1::oB true::oB false::oB false::oc 0 0::oc 0 0::oc 0 2::oI c_1::oB (decide (c_1>(0:Int)))::oL none 0 0::oc 0 0::oc 0 0::oc 0 2::oI c_1::os 3 0 2 2::oL b'_2 l'_2 c'_2::os 4 0 1 1::os 5 0 1 cap'::no16 (no4 []),bx:=[(⟨50,.lst [I me,SV.slc 1 0 m cap,I c_1],3,true⟩:Box),⟨26,.vals (vR xs++js),tot,true⟩,⟨24,.lst [I s,L b l c],2,true⟩,⟨3,.lst [I 3,I c_1],2,false⟩,⟨22,.lst [L b'_2 l'_2 c'_2],1,true⟩,⟨22,.lst [L b'_2 l'_2 c'_2],tot',true⟩],E:=E'_2:St } else Ct QF 8 Tryz.f23 [1,1,1,1,1,1] 2 Q { fr:=some (SV.loc 0 0)::some (SV.agg [I s,L b l c])::oL db dl dc::none::oc 2 0::none::oL none 0 0::oI 0::oL b' l' c'::oI e::oL b'_1 l'_1 c'_1::oB true::oL none 0 0::none::none::some (SV.tup [L b' l' c',I e])::some (SV.agg [I s,L b l c])::oL db dl dc::some (SV.tup [L b' l' c',I e])::oL b' l' c'::oI e::oI e::oB (e !=(10:Int))::none::none::some (SV.tup [L b'_1 l'_1 c'_1,B true])::oL db dl dc::some (SV.tup [L b'_1 l'_1 c'_1,B true])::oL b'_1 l'_1 c'_1::oB true::oB true::oB false::oB false::oc 0 0::oL b'_1 l'_1 c'_1::oB true::oB false::oB false::oc 0 0::oc 0 0::oc 0 2::oI c_1::oB (decide (c_1>(0:Int)))::no16 (no8 (no4 (none::[]))),bx:=[(⟨50,.lst [I me,SV.slc 1 0 m cap,I c_1],3,true⟩:Box),⟨26,.vals (vR xs++js),tot,true⟩,⟨24,.lst [I s,L b l c],2,true⟩],E:=E'_1:St })/\∀ (ys:List (List Int)) (c_1:Int) (cap' tot':Nat) (js':List Value),appF me (xs_2,cnt) ns=some (ys,c_1)->List.length ys<=cap'->cap'*5<=tot'->(∀ (v:Value),List.Mem v js'->Value.oneCell' v=true)->W5 ys->List.length ys<=16->bif decide (c_1>(0:Int)) then ∀ (base:Option Addr) (E':Mem),Mem.le E'_1 E'->WinE E' base [Value.int IntKind.i64 3,Value.int IntKind.i64 c_1]->∃ (zs:List Int),SL (RK IntKind.i64 1) E' (Option.map (fun (x:Addr)=>Addr.add x 0) base) 2 2 (List.map (fun (z:Int)=>[z]) zs)/\2<=100/\∀ (b'_2:Option Addr) (l'_2 c'_2:Nat) (ys_1:List Int) (E'_2:Mem),Mem.le E' E'_2->Hyp (ys_1=recB zs)->Bs E'_2 b'_2 l'_2 c'_2 ys_1->∀ (cap'_1 tot'_1:Nat),1<=cap'_1->cap'_1*1<=tot'_1->Ct QF 8 Tryz.f23 [1,1,1,1,1,1] 2 Q { fr:=some (SV.loc 0 0)::some (SV.agg [I s,L b l c])::oL db dl dc::none::oc 2 0::none::oL none 0 0::oI 0::oL b' l' c'::oI e::oL b'_1 l'_1 c'_1::oB true::os 6 0 1 cap'_1::none::none::some (SV.tup [L b' l' c',I e])::some (SV.agg [I s,L b l c])::oL db dl dc::some (SV.tup [L b' l' c',I e])::oL b' l' c'::oI e::oI e::oB (e !=(10:Int))::none::none::some (SV.tup [L b'_1 l'_1 c'_1,B true])::oL db dl dc::some (SV.tup [L b'_1 l'_1 c'_1,B true])::oL b'_1 l'_1 c'_1::oB true::oB true::oB false::oB false::oc 0 0::oL b'_1 l'_1 c'_1::oB true::oB false::oB false::oc 0 0::oc 0 0::oc 0 2::oI c_1::oB (decide (c_1>(0:Int)))::oL none 0 0::oc 0 0::oc 0 0::oc 0 2::oI c_1::os 4 0 2 2::oL b'_2 l'_2 c'_2::os 5 0 1 1::os 6 0 1 cap'_1::no16 (no4 []),bx:=[(⟨(50:Nat),Row.lst [I me,SV.slc 3 0 (List.length ys) cap',I c_1],(3:Nat),true⟩:Box),⟨(26:Nat),Row.lst [],(0:Nat),false⟩,⟨(24:Nat),Row.lst [I s,L b l c],(2:Nat),true⟩,⟨(26:Nat),Row.vals (vR ys++js'),tot',true⟩,⟨(3:Nat),Row.lst [I 3,I c_1],(2:Nat),false⟩,⟨(22:Nat),Row.lst [L b'_2 l'_2 c'_2],(1:Nat),true⟩,⟨(22:Nat),Row.lst [L b'_2 l'_2 c'_2],tot'_1,true⟩],E:=E'_2:St } else Ct QF 8 Tryz.f23 [1,1,1,1,1,1] 2 Q { fr:=some (SV.loc 0 0)::some (SV.agg [I s,L b l c])::oL db dl dc::none::oc 2 0::none::oL none 0 0::oI 0::oL b' l' c'::oI e::oL b'_1 l'_1 c'_1::oB true::oL none 0 0::none::none::some (SV.tup [L b' l' c',I e])::some (SV.agg [I s,L b l c])::oL db dl dc::some (SV.tup [L b' l' c',I e])::oL b' l' c'::oI e::oI e::oB (e !=(10:Int))::none::none::some (SV.tup [L b'_1 l'_1 c'_1,B true])::oL db dl dc::some (SV.tup [L b'_1 l'_1 c'_1,B true])::oL b'_1 l'_1 c'_1::oB true::oB true::oB false::oB false::oc 0 0::oL b'_1 l'_1 c'_1::oB true::oB false::oB false::oc 0 0::oc 0 0::oc 0 2::oI c_1::oB (decide (c_1>(0:Int)))::no16 (no8 (no4 (none::[]))),bx:=[(⟨50,.lst [I me,SV.slc 3 0 (List.length ys) cap',I c_1],3,true⟩:Box),⟨26,.lst [],0,false⟩,⟨24,.lst [I s,L b l c],2,true⟩,⟨26,.vals (vR ys++js'),tot',true⟩],E:=E'_1:St })
 delta no4 no8 no16
 have wr:∀ {ms:List (Int×List Int)},appendF s zs ds=(ms,10)->∀ {ns:List Int},numsF ds=some ns->∀ {st:List (List Int)×Int},appF me (xs,cnt) ns=some st->writeF me s zs (xs,cnt) ds=compactF s zs (keepF st):=fun q1 ns q2 st q3=>by
  unfold writeF;rw [q1,if_pos rfl,q2];simp only [q3]
 have k0:∀ (ys:List (List Int)) (c':Int),0<c'->keepF (ys,c')=[recB [3,c']]++ys.map fun r=>recB (1::r):=fun ys c' q=>by unfold keepF;rw [if_pos q]
 have k1':∀ (ys:List (List Int)) (c':Int),¬ 0<c'->keepF (ys,c')=[]++ys.map fun r=>recB (1::r):=fun ys c' q=>by unfold keepF;rw [if_neg q]
 have r3:∀ c':Int,∀ d∈[recB [3,c']],d.length<=60000:=fun c' d hd=>by rw [List.mem_singleton.1 hd];have:=recB_len [3,c'];simp at this;omega
 have w3':∀ {c':Int} {base:Option Addr} {E3:Mem},WinE E3 base [Value.int .i64 3,Value.int .i64 c']->SL (RK .i64 1) E3 (base.map fun x=>x.add 0) 2 2 ([3,c'].map fun z=>[z]):=fun {c'} {base} {E3} w=>SL.win (RK_ok .i64 (by decide)) w (rs:=([3,c'].map fun z=>[z]).map fun x=>x.map (Value.int .i64)) rfl (SLr_RK (fun x hx=>by obtain ⟨z,_,rfl⟩:=List.mem_map.1 hx;rfl)) rfl (Nat.le_refl _)
 refine ⟨zs,ds,hB,hD,hd,fun b' l' c' ms e E1 k1 q1 q2=>⟨k1,condC (fun g=>?_) (fun g=>?_)⟩⟩
 ·have g:e≠10:=by simpa using g
  exact hQ _ _ _ (cloK_intro [some 0,some 1] (h b' l' c' ms e E1 k1 (by show writeF me s zs (xs,cnt) ds=_;unfold writeF;rw [show appendF s zs ds=(ms,e) from q1,if_neg g]) q2) (wkG mr_ (h6:=(by repeat' first|exact True.intro|exact rfl|exact Or.inl rfl|exact (by decide:0<3)|exact (by decide:1<3)|refine And.intro ?_ ?_))))
 have g:e=10:=by simpa using g
 subst g
 have q1:appendF s zs ds=(ms,10):=q1
 have bad:∀ E2:Mem,Mem.le E1 E2->(∀ ns,numsF ds=some ns->appF me (xs,cnt) ns=none)->∀ bx:List Box,bx=[⟨50,.lst [I me,.slc 1 0 m cap,I cnt],3,true⟩,⟨26,.vals (vR xs++js),tot,true⟩,⟨24,.lst [I s,L b l c],2,true⟩]->Q (.tup [L none 0 0,I 9]) bx E2:=fun E2 k2 q bx e=>by
  subst e
  refine hQ _ _ _ (cloK_intro [some 0,some 1] (h none 0 0 [] 9 E2 (mt_ k1 k2) ?_ (FL.nil E2)) (wkG mr_ (h6:=(by repeat' first|exact True.intro|exact rfl|exact Or.inl rfl|exact (by decide:0<3)|exact (by decide:1<3)|refine And.intro ?_ ?_))))
  show writeF me s zs (xs,cnt) ds=_
  unfold writeF
  rw [q1,if_pos rfl]
  cases q3:numsF ds with
  | none=>rfl
  | some ns=>simp only [q ns q3]
 refine ⟨ds,hD.mono k1,by omega,fun E2 k2 q3=>⟨k2,bad E2 k2 (fun ns q=>by rw [show numsF ds=none from q3] at q;cases q) _ rfl⟩,fun ns b2 l2 c2 E2 k2 q3 q4=>⟨k2,tot,xs,js,ns,q4,⟨rfl,rfl,S.ne,S.w5,S.len,S.le,S.room⟩,hj,fun q5=>bad E2 k2 (fun ns' q=>by rw [show numsF ds=some ns from q3] at q;cases q;exact q5) _ rfl,fun cn q5=>condC (fun g=>?_) (fun g=>?_),fun ys cn cap' tot' js' q5 y1 y2 y3 y4 y5=>condC (fun g=>?_) (fun g=>?_)⟩⟩
 ·have g:0<cn:=by simpa using g
  have hk:=k0 xs cn g
  exact fun base E3 k3 w3=>⟨[3,cn],w3' w3,by decide,fun b5 l5 c5 yb E4 k4 q6 q7 kc kt r1 r2=>Ct_re [some 0,some 1,some 1,some 2,some 5] (Ct_intro okQF (pcW (E0:=E) (rr:=[[_]]) (want:=[yb]) (full:=keepF (xs,cn)) (hB.mono (mt_ (mt_ k1 k2) (mt_ k3 k4))) S.w5 S.len S.le S.room (SLr.nil.snoc ⟨_,_,_,rfl,q7⟩) rfl ⟨rfl,r1,r2⟩ (by rw [show yb=recB [3,cn] from q6];exact r3 cn) (mt_ (mt_ k1 k2) (mt_ k3 k4)) (fun b' l' c' ms e E' k z1 z2=>h b' l' c' ms e E' k (by show writeF me s zs (xs,cnt) ds=_;rw [wr q1 q3 q5];exact z1) z2) hQ (Nat.le_refl _) (by rw [hk,show yb=recB [3,cn] from q6]))) (wkG mr_ (h6:=(by repeat' first|exact True.intro|exact rfl|exact Or.inl rfl|exact (by decide:1<6)|refine And.intro ?_ ?_)))⟩
 ·have g:¬ 0<cn:=by simpa using g
  have hk:=k1' xs cn g
  exact Ct_re [some 0,some 1,some 1,some 2,none] (Ct_intro okQF (pcW (E0:=E) (rr:=[]) (want:=[]) (n:=0) (kcap:=0) (ktot:=0) (rs:=[]) (full:=keepF (xs,cn)) (hB.mono (mt_ k1 k2)) S.w5 S.len S.le S.room SLr.nil rfl ⟨rfl,Nat.le_refl _,Nat.le_refl _⟩ (fun d hd=>nomatch hd) (mt_ k1 k2) (fun b' l' c' ms e E' k z1 z2=>h b' l' c' ms e E' k (by show writeF me s zs (xs,cnt) ds=_;rw [wr q1 q3 q5];exact z1) z2) hQ (by decide) hk)) (wkG mr_ (h6:=(by repeat' first|exact True.intro|exact rfl|exact Or.inl rfl|exact (by decide:1<3)|refine And.intro ?_ ?_)))
 ·have g:0<cn:=by simpa using g
  have hk:=k0 ys cn g
  exact fun base E3 k3 w3=>⟨[3,cn],w3' w3,by decide,fun b5 l5 c5 yb E4 k4 q6 q7 kc kt r1 r2=>Ct_re [some 0,some 1,some 3,some 2,some 6] (Ct_intro okQF (pcW (E0:=E) (rr:=[[_]]) (want:=[yb]) (full:=keepF (ys,cn)) (hB.mono (mt_ (mt_ k1 k2) (mt_ k3 k4))) y4 rfl y5 ⟨y1,y2⟩ (SLr.nil.snoc ⟨_,_,_,rfl,q7⟩) rfl ⟨rfl,r1,r2⟩ (by rw [show yb=recB [3,cn] from q6];exact r3 cn) (mt_ (mt_ k1 k2) (mt_ k3 k4)) (fun b' l' c' ms e E' k z1 z2=>h b' l' c' ms e E' k (by show writeF me s zs (xs,cnt) ds=_;rw [wr q1 q3 q5];exact z1) z2) hQ (Nat.le_refl _) (by rw [hk,show yb=recB [3,cn] from q6]))) (wkG mr_ (h6:=(by repeat' first|exact True.intro|exact rfl|exact Or.inl rfl|exact (by decide:1<7)|refine And.intro ?_ ?_)))⟩
 ·have g:¬ 0<cn:=by simpa using g
  have hk:=k1' ys cn g
  exact Ct_re [some 0,some 1,some 3,some 2,none] (Ct_intro okQF (pcW (E0:=E) (rr:=[]) (want:=[]) (n:=0) (kcap:=0) (ktot:=0) (rs:=[]) (full:=keepF (ys,cn)) (hB.mono (mt_ k1 k2)) y4 rfl y5 ⟨y1,y2⟩ SLr.nil rfl ⟨rfl,Nat.le_refl _,Nat.le_refl _⟩ (fun d hd=>nomatch hd) (mt_ k1 k2) (fun b' l' c' ms e E' k z1 z2=>h b' l' c' ms e E' k (by show writeF me s zs (xs,cnt) ds=_;rw [wr q1 q3 q5];exact z1) z2) hQ (by decide) hk)) (wkG mr_ (h6:=(by repeat' first|exact True.intro|exact rfl|exact Or.inl rfl|exact (by decide:1<4)|refine And.intro ?_ ?_)))
theorem write_sem {s0 h:Nat} {ds:List Int} {db:Option Addr} {dl dc cap:Nat} {K:KT} (hB:Bs E b l c zs) (hD:Bs E db dl dc ds) (hd:dl<=60000) (S:StAt bx s0 h me cnt m cap tot xs js) (hj:∀ v∈js,v.oneCell'=true) (hk:(∀ (b':Option Addr) (l' c':Nat) (ms:List (Int×List Int)) (e:Int) (E':Mem),Mem.le E E'->Hyp (writeF me s zs (xs,cnt) ds=(ms,e))->FL E' b' l' c' ms->K (.tup [L b' l' c',I e]) ((bx.set s0 ⟨50,.lst [],0,false⟩).set h ⟨26,.lst [],0,false⟩) E')):
  CallSem Tryz.prog 23 [.loc s0 0,.agg [I s,L b l c],L db dl dc] bx E K:=by
 have S0:StAt [⟨50,.lst [I me,.slc 1 0 m cap,I cnt],3,true⟩,⟨26,.vals (vR xs++js),tot,true⟩] 0 1 me cnt m cap tot xs js:=⟨rfl,rfl,by decide,S.w5,S.len,S.le,S.room⟩
 refine CallSem.hand (σ:=[s0,h]) (bxs:=[⟨50,.lst [I me,.slc 1 0 m cap,I cnt],3,true⟩,⟨26,.vals (vR xs++js),tot,true⟩]) ⟨by simp [S.ne],rfl,fun i b hb=>?_⟩ (args':=[.loc 0 0,.agg [I s,L b l c],L db dl dc]) ?_ (EntB.sem okQF Tryz.func23 ⟨by kernel_rfl,by kernel_rfl⟩ (u23 hB hD hd S0 hj ?_ (fun _ _ _ q=>q)))
 ·match i,hb with
  | 0,hb=>
   simp only [List.getElem?_cons_zero,Option.some.injEq] at hb;subst hb
   exact ⟨rfl,s0,rfl,by simpa [Box.ren,Row.ren,SV.renL,SV.ren,renF] using S.st⟩
  | 1,hb=>
   simp only [List.getElem?_cons_succ,List.getElem?_cons_zero,Option.some.injEq] at hb;subst hb
   exact ⟨rfl,h,rfl,by simpa [Box.ren,Row.ren,SV.renL,SV.ren,renF] using S.hd⟩
  | j+2,hb=>simp at hb
 ·simp only [SV.renL,SV.ren,renF,List.getElem?_cons_zero]
 ·intro b' l' c' ms e E' k q1 q2
  simp only [SV.ren,SV.renL,merge,setAll,List.take,List.drop,List.map,List.length_cons,List.length_nil,Box.ren,Row.ren,renF,List.getElem?_cons_zero,List.getElem?_cons_succ]
  simpa using hk b' l' c' ms e E' k q1 q2
def tabTG:CallT:=fun f args bx E K=>match f with
 | 16=>(match args with | [.agg [.raw (.int .i64 s),.raw (.slice b l c)],.raw (.int .i64 me)]=>∃ zs:List Int,Bs E b l c zs/\(∀ (e:Int) (E':Mem),Mem.le E E'->Hyp (heldF me s zs=(([],0),e))->Hyp (e≠0)->K (.tup [.raw (.pointer none),.ifc 29 (I e)]) bx E')/\(∀ (xs:List (List Int)) (cnt:Int) (m cap tot:Nat) (js:List Value) (E':Mem),Mem.le E E'->Hyp (heldF me s zs=((xs,cnt),0))->StAt (bx++[⟨50,.lst [I me,.slc (bx.length+1) 0 m cap,I cnt],3,true⟩,⟨26,.vals (vR xs++js),tot,true⟩]) bx.length (bx.length+1) me cnt m cap tot xs js->(∀ v∈js,v.oneCell'=true)->K (.tup [.loc bx.length 0,.raw .nilIface]) (bx++[⟨50,.lst [I me,.slc (bx.length+1) 0 m cap,I cnt],3,true⟩,⟨26,.vals (vR xs++js),tot,true⟩]) E')|_=>False)
 | 22=>∃ (s h:Nat) (me cnt o n:Int) (m cap tot:Nat) (xs:List (List Int)) (js:List Value),args=[.loc s 0,I o,I n]/\StAt bx s h me cnt m cap tot xs js/\K (I (idxR o n xs)) bx E
 | 23=>(match args with | [.loc s0 0,.agg [.raw (.int .i64 s),.raw (.slice b l c)],.raw (.slice db dl dc)]=>(match bx[s0]? with |some ⟨50,.lst [.raw (.int .i64 me),.slc h 0 m cap,.raw (.int .i64 cnt)],3,true⟩=>∃ (tot:Nat) (xs:List (List Int)) (js:List Value) (zs ds:List Int),Bs E b l c zs/\Bs E db dl dc ds/\dl<=60000/\StAt bx s0 h me cnt m cap tot xs js/\(∀ v∈js,v.oneCell'=true)/\(∀ (b':Option Addr) (l' c':Nat) (ms:List (Int×List Int)) (e:Int) (E':Mem),Mem.le E E'->Hyp (writeF me s zs (xs,cnt) ds=(ms,e))->FL E' b' l' c' ms->K (.tup [L b' l' c',I e]) ((bx.set s0 ⟨50,.lst [],0,false⟩).set h ⟨26,.lst [],0,false⟩) E')|_=>False)|_=>False)
 | _=>False
theorem tabTG_ok (f:FuncId) (args:List SV) (bx:List Box) (E:Mem) (K:KT) (h:tabTG f args bx E K):CallSem Tryz.prog f args bx E K:=by
 unfold tabTG at h
 split at h
 ·split at h
  case h_2=>exact h.elim
  obtain ⟨zs,h1,h2,h3⟩:=h
  exact open_sem h1 h2 h3
 ·obtain ⟨s,h0,me,cnt,o,n,m,cap,tot,xs,js,rfl,h1,h2⟩:=h
  exact find_sem h1 h2
 ·split at h
  case h_2=>exact h.elim
  split at h
  case h_2=>exact h.elim
  obtain ⟨tot,xs,js,zs,ds,h1,h2,h3,h4,h5,h6⟩:=h
  exact write_sem h1 h2 h3 h4 h5 h6
 ·exact h.elim
noncomputable def tabTGp:FuncId->List SV->Mem->(SV->Mem->Prop)->Prop:=fun f args E K=>match f with
 | 17=>∃ e:Int,args=[.ifc 29 (I e)]/\(1<=e/\e<=16)/\K (I e) E
 | 21=>d1 args fun x0=>dC x0 fun l1=>d5 l1 fun x0_0 x0_1 x0_2 x0_3 x0_4=>dI x0_0 fun a1=>dI x0_1 fun a2=>dI x0_2 fun a3=>dI x0_3 fun a4=>dI x0_4 fun a5=>(K (B (okR a1 a2 a3 a4 a5)) E)
 | 24=>d1 args fun x0=>dC x0 fun l1=>d5 l1 fun x0_0 x0_1 x0_2 x0_3 x0_4=>dI x0_0 fun a1=>dI x0_1 fun a2=>dI x0_2 fun a3=>dI x0_3 fun a4=>dI x0_4 fun a5=>(∀ (b':Option Addr) (l' c':Nat) (ys:List Int) (E':Mem),Mem.le E E'->Hyp (ys=recB [1,a1,a2,a3,a4,a5])->Bs E' b' l' c' ys->K (L b' l' c') E')
 | 32=>d1 args fun x0=>dS x0 fun b1 l2 c3=>∃ (zs:List Int),SL (RK .i64 1) E b1 l2 c3 (zs.map fun z=>[z])/\l2<=100/\(∀ (b':Option Addr) (l' c':Nat) (ys:List Int) (E':Mem),Mem.le E E'->Hyp (ys=recB zs)->Bs E' b' l' c' ys->K (L b' l' c') E')
 | _=>False
theorem tabTGp_ok:TabOK Tryz.prog tabTGp:=by
 intro f args E K h
 unfold tabTGp at h
 split at h
 ·obtain ⟨e,rfl,h1,h2⟩:=h
  exact Ent.sem okQC Tryz.func17 ⟨by kernel_rfl,by kernel_rfl⟩ rfl (s20w h1 h2)
 ·replace h:=d1_elim h
  obtain ⟨x0,rfl,h⟩:=h
  replace h:=dC_elim h
  obtain ⟨l1,hl1,h⟩:=h
  replace h:=d5_elim h
  obtain ⟨x0_0,x0_1,x0_2,x0_3,x0_4,rfl,h⟩:=h
  replace h:=dI_elim h
  obtain ⟨a1,rfl,h⟩:=h
  replace h:=dI_elim h
  obtain ⟨a2,rfl,h⟩:=h
  replace h:=dI_elim h
  obtain ⟨a3,rfl,h⟩:=h
  replace h:=dI_elim h
  obtain ⟨a4,rfl,h⟩:=h
  replace h:=dI_elim h
  obtain ⟨a5,rfl,h⟩:=h
  exact TabSem.congr (valL_cons (asCells_val hl1) rfl) (Ent.sem okQ1 Tryz.func21 ⟨by kernel_rfl,by kernel_rfl⟩ rfl (c21 h))
 ·replace h:=d1_elim h
  obtain ⟨x0,rfl,h⟩:=h
  replace h:=dC_elim h
  obtain ⟨l1,hl1,h⟩:=h
  replace h:=d5_elim h
  obtain ⟨x0_0,x0_1,x0_2,x0_3,x0_4,rfl,h⟩:=h
  replace h:=dI_elim h
  obtain ⟨a1,rfl,h⟩:=h
  replace h:=dI_elim h
  obtain ⟨a2,rfl,h⟩:=h
  replace h:=dI_elim h
  obtain ⟨a3,rfl,h⟩:=h
  replace h:=dI_elim h
  obtain ⟨a4,rfl,h⟩:=h
  replace h:=dI_elim h
  obtain ⟨a5,rfl,h⟩:=h
  exact TabSem.congr (valL_cons (asCells_val hl1) rfl) (Ent.sem okQ3 Tryz.func24 ⟨by kernel_rfl,by kernel_rfl⟩ rfl (c24 h))
 ·replace h:=d1_elim h
  obtain ⟨x0,rfl,h⟩:=h
  replace h:=dS_elim h
  obtain ⟨b1,l2,c3,rfl,h⟩:=h
  obtain ⟨zs,g0,g1,h⟩:=h
  exact TabSem.congr (valL_cons rfl rfl) (Ent.sem okQ2 Tryz.func32 ⟨by kernel_rfl,by kernel_rfl⟩ rfl (c25 g0 g1 h))
 ·exact h.elim
noncomputable def QG:Cx:={ P:=Tryz.prog,inl:=fun f=>List.contains [] f,tab:=tabTGp,isB:=fun f=>f==16||f==22||f==23,tabB:=tabTG,opt:={ unroll:=0,carry:=[] },muts:=(fun o=>match o with | .buildSlice .. =>true| .call { args:=#[.tmp 29,.tmp 30,.tmp 34],.. }=>true| .call { args:=#[.tmp 54,.tmp 55,.tmp 57],.. }=>true|o=>mutsD o) }
theorem okQG:CxOK QG:=CxOK.four tabTGp_ok (by kernel_rfl) (okInl (by kernel_rfl)) tabTG_ok
theorem c9 {a6:Int} {a7:Int} {a8:Int} {a9:Int} {a10:Int} (h0:Bs E b2 l3 c4 zs) (h:∀ (b':Option Addr) (l' c':Nat) (ms:List (Int×List Int)) (e:Int) (E':Mem),Mem.le E E'->Hyp (takeF a5 a1 zs a6 a7 a8 a9 a10=(ms,e))->FL E' b' l' c' ms->K (.tup [L b' l' c',I e]) E'):
  Ent QG 8 Tryz.f8 [.agg [I a1,L b2 l3 c4],I a5,.agg [I a6,I a7,I a8,I a9,I a10]] E K:=by
 refine sm_ (?_:∃ (zs:List Int),Bs E b2 l3 c4 zs/\(∀ (e:Int) (E':Mem),Mem.le E E'->Hyp (heldF a5 a1 zs=(([],(0:Int)),e))->Hyp (e≠(0:Int))->Mem.le E E'/\∃ (e_1:Int),[SV.ifc 29 (I e)]=[SV.ifc 29 (I e_1)]/\((1:Int)<=e_1/\e_1<=(16:Int))/\Mem.le E' E'/\Mem.le E E'/\K (SV.tup [L none 0 0,I e_1]) E')/\∀ (xs:List (List Int)) (cnt:Int) (m cap tot:Nat) (js:List Value) (E':Mem),Mem.le E E'->Hyp (heldF a5 a1 zs=((xs,cnt),(0:Int)))->StAt [⟨50,.lst [I a5,SV.slc 1 0 m cap,I cnt],3,true⟩,⟨26,.vals (vR xs++js),tot,true⟩] 0 1 a5 cnt m cap tot xs js->(∀ (v:Value),List.Mem v js->Value.oneCell' v=true)->Mem.le E E'/\Mem.le E' E'/\bif !okR a6 a7 a8 a9 a10 then Mem.le E E'/\K (SV.tup [L none 0 0,I 1]) E' else ∃ (s:Nat),∃ (h:Nat),∃ (me:Int),∃ (cnt_1:Int),∃ (o:Int),∃ (n:Int),∃ (m_1:Nat),∃ (cap_1:Nat),∃ (tot_1:Nat),∃ (xs_1:List (List Int)),∃ (js_1:List Value),[SV.loc 2 0,I a6,I a7]=[SV.loc s 0,I o,I n]/\StAt [⟨24,.lst [I a1,L b2 l3 c4],2,true⟩,⟨26,.lst [I a6,I a7,I a8,I a9,I a10],5,true⟩,⟨50,.lst [I a5,SV.slc 3 0 m cap,I cnt],3,true⟩,⟨26,.vals (vR xs++js),tot,true⟩] s h me cnt_1 m_1 cap_1 tot_1 xs_1 js_1/\bif decide (idxR o n xs_1>=(0:Int)) then Mem.le E E'/\K (SV.tup [L none 0 0,I 5]) E' else bif a6==a5 then bif bif true then decide (a7<=cnt) else false then Mem.le E E'/\K (SV.tup [L none 0 0,I 14]) E' else bif (NI m)==16 then Mem.le E E'/\K (SV.tup [L none 0 0,I 10]) E' else ∀ (b':Option Addr) (l' c':Nat) (ys:List Int) (E'_1:Mem),Mem.le E' E'_1->Hyp (ys=recB [(1:Int),a6,a7,a8,a9,a10])->Bs E'_1 b' l' c' ys->Mem.le E' E'_1/\∃ (tot_2:Nat),∃ (xs_2:List (List Int)),∃ (js_2:List Value),∃ (zs:List Int),∃ (ds:List Int),Bs E'_1 b2 l3 c4 zs/\Bs E'_1 b' l' c' ds/\l'<=60000/\StAt [⟨24,.lst [I a1,L b2 l3 c4],2,true⟩,⟨26,.lst [I a6,I a7,I a8,I a9,I a10],5,true⟩,⟨50,.lst [I a5,SV.slc 3 0 m cap,I cnt],3,true⟩,⟨26,.vals (vR xs++js),tot,true⟩] 2 3 a5 cnt m cap tot_2 xs_2 js_2/\(∀ (v:Value),List.Mem v js_2->Value.oneCell' v=true)/\∀ (b':Option Addr) (l' c':Nat) (ms:List (Int×List Int)) (e:Int) (E':Mem),Mem.le E'_1 E'->Hyp (writeF a5 a1 zs (xs_2,cnt) ds=(ms,e))->FL E' b' l' c' ms->Sx.Alike al2 (Mem.le E E'/\K (SV.tup [L b' l' c',I e]) E') else bif (NI m)==16 then Mem.le E E'/\K (SV.tup [L none 0 0,I 10]) E' else ∀ (b':Option Addr) (l' c':Nat) (ys:List Int) (E'_1:Mem),Mem.le E' E'_1->Hyp (ys=recB [(1:Int),a6,a7,a8,a9,a10])->Bs E'_1 b' l' c' ys->Mem.le E' E'_1/\∃ (tot_2:Nat),∃ (xs_2:List (List Int)),∃ (js_2:List Value),∃ (zs:List Int),∃ (ds:List Int),Bs E'_1 b2 l3 c4 zs/\Bs E'_1 b' l' c' ds/\l'<=60000/\StAt [⟨24,.lst [I a1,L b2 l3 c4],2,true⟩,⟨26,.lst [I a6,I a7,I a8,I a9,I a10],5,true⟩,⟨50,.lst [I a5,SV.slc 3 0 m cap,I cnt],3,true⟩,⟨26,.vals (vR xs++js),tot,true⟩] 2 3 a5 cnt m cap tot_2 xs_2 js_2/\(∀ (v:Value),List.Mem v js_2->Value.oneCell' v=true)/\∀ (b':Option Addr) (l' c':Nat) (ms:List (Int×List Int)) (e:Int) (E':Mem),Mem.le E'_1 E'->Hyp (writeF a5 a1 zs (xs_2,cnt) ds=(ms,e))->FL E' b' l' c' ms->Sx.Alike al2 (Mem.le E E'/\K (SV.tup [L b' l' c',I e]) E'))
 delta NI
 have nil:∀ (e:Int) (E':Mem),Mem.le E E'->takeF a5 a1 zs a6 a7 a8 a9 a10=([],e)->K (.tup [L none 0 0,I e]) E':=fun e E' k q=>h none 0 0 [] e E' k q (FL.nil E')
 refine ⟨zs,h0,fun e E1 k1 q1 q2=>⟨k1,e,rfl,?_,mr_,k1,nil e E1 k1 ?_⟩,fun xs cnt m cap tot js E1 k1 q1 S hj=>⟨k1,mr_,?_⟩⟩
 ·have:=held_codes q1
  have q2:e≠0:=q2
  omega
 ·unfold takeF
  rw [show heldF a5 a1 zs=(([],0),e) from q1];exact if_pos q2
 have q1:heldF a5 a1 zs=((xs,cnt),0):=q1
 have hm:=S.len
 have st:takeF a5 a1 zs a6 a7 a8 a9 a10=if okR a6 a7 a8 a9 a10=false then ([],1) else if 0<=idxR a6 a7 xs then ([],5) else if a6=a5/\a7<=cnt then ([],14) else if xs.length=16 then ([],10) else writeF a5 a1 zs (xs,cnt) (recB [1,a6,a7,a8,a9,a10]):=by
  unfold takeF
  rw [q1]
  exact if_neg (by simp)
 refine condC (fun g=>⟨k1,nil 1 E1 k1 (by rw [st,if_pos (by simpa using g)])⟩) (fun g=>?_)
 have g:okR a6 a7 a8 a9 a10=true:=by simpa using g
 rw [if_neg (by rw [g];simp)] at st
 refine ⟨2,3,a5,cnt,_,_,m,cap,tot,xs,js,rfl,⟨rfl,rfl,by decide,S.w5,S.len,S.le,S.room⟩,condC (fun g2=>⟨k1,nil 5 E1 k1 (by rw [st,if_pos (by simpa using g2)])⟩) (fun g2=>?_)⟩
 have g2:¬ 0<=idxR a6 a7 xs:=by simpa using g2
 rw [if_neg g2] at st
 have last:¬ (a6=a5/\a7<=cnt)->∀ {B:Prop},(¬ (m:Int)=16->B)->((m:Int)=16->takeF a5 a1 zs a6 a7 a8 a9 a10=([],10))->(bif (m:Int)==(16:Int) then (Mem.le E E1/\K (.tup [L none 0 0,I 10]) E1) else B):=fun _ B hb hf=>condC (fun w=>⟨k1,nil 10 E1 k1 (hf (by simpa using w))⟩) (fun w=>hb (by simpa using w))
 have full:¬ (a6=a5/\a7<=cnt)->(m:Int)=16->takeF a5 a1 zs a6 a7 a8 a9 a10=([],10):=fun w v=>by rw [st,if_neg w,if_pos (by omega)]
 have rest:¬ (a6=a5/\a7<=cnt)->¬ (m:Int)=16->takeF a5 a1 zs a6 a7 a8 a9 a10=writeF a5 a1 zs (xs,cnt) (recB [1,a6,a7,a8,a9,a10]):=fun w v=>by rw [st,if_neg w,if_neg (by omega)]
 have rl:=recB_len [1,a6,a7,a8,a9,a10]
 refine condC (fun g3=>condC (fun g4=>?_) (fun g4=>?_)) (fun g3=>?_)
 ·have g3:a6=a5:=by simpa using g3
  have g4:a7<=cnt:=by simpa using g4
  exact ⟨k1,nil 14 E1 k1 (by rw [st,if_pos ⟨g3,g4⟩])⟩
 ·have g4:¬ a7<=cnt:=by simpa using g4
  have w:¬ (a6=a5/\a7<=cnt):=fun q=>g4 q.2
  refine last w (fun v=>?_) (full w)
  refine fun b' l' c' ys E2 k2 z1 z2=>⟨k2,tot,xs,js,zs,ys,h0.mono (mt_ k1 k2),z2,?_,⟨rfl,rfl,by decide,S.w5,S.len,S.le,S.room⟩,hj,fun b3 l3 c3 ms e E3 k3 z3 z4=>alike ⟨mt_ k1 (mt_ k2 k3),h b3 l3 c3 ms e E3 (mt_ k1 (mt_ k2 k3)) ?_ z4⟩⟩
  ·have:=z2.2.1
   rw [show ys=recB [1,a6,a7,a8,a9,a10] from z1] at this
   simp at rl;omega
  ·show takeF a5 a1 zs a6 a7 a8 a9 a10=_
   rw [rest w v,← show ys=recB [1,a6,a7,a8,a9,a10] from z1];exact z3
 ·have g3:¬ a6=a5:=by simpa using g3
  have w:¬ (a6=a5/\a7<=cnt):=fun q=>g3 q.1
  refine last w (fun v=>?_) (full w)
  refine fun b' l' c' ys E2 k2 z1 z2=>⟨k2,tot,xs,js,zs,ys,h0.mono (mt_ k1 k2),z2,?_,⟨rfl,rfl,by decide,S.w5,S.len,S.le,S.room⟩,hj,fun b3 l3 c3 ms e E3 k3 z3 z4=>alike ⟨mt_ k1 (mt_ k2 k3),h b3 l3 c3 ms e E3 (mt_ k1 (mt_ k2 k3)) ?_ z4⟩⟩
  ·have:=z2.2.1
   rw [show ys=recB [1,a6,a7,a8,a9,a10] from z1] at this
   simp at rl;omega
  ·show takeF a5 a1 zs a6 a7 a8 a9 a10=_
   rw [rest w v,← show ys=recB [1,a6,a7,a8,a9,a10] from z1];exact z3
theorem c11 {a6:Int} {a7:Int} (h0:Bs E b2 l3 c4 zs) (h:∀ (b':Option Addr) (l' c':Nat) (ms:List (Int×List Int)) (e:Int) (E':Mem),Mem.le E E'->Hyp (giveF a5 a1 zs a6 a7=(ms,e))->FL E' b' l' c' ms->K (.tup [L b' l' c',I e]) E'):
  Ent QG 8 Tryz.f11 [.agg [I a1,L b2 l3 c4],I a5,I a6,I a7] E K:=by
 refine sm_ (?_:∃ (zs:List Int),Bs E b2 l3 c4 zs/\(∀ (e:Int) (E':Mem),Mem.le E E'->Hyp (heldF a5 a1 zs=(([],(0:Int)),e))->Hyp (e≠(0:Int))->Mem.le E E'/\∃ (e_1:Int),[SV.ifc 29 (I e)]=[SV.ifc 29 (I e_1)]/\((1:Int)<=e_1/\e_1<=(16:Int))/\Mem.le E' E'/\Mem.le E E'/\K (SV.tup [L none 0 0,I e_1]) E')/\∀ (xs:List (List Int)) (cnt:Int) (m cap tot:Nat) (js:List Value) (E':Mem),Mem.le E E'->Hyp (heldF a5 a1 zs=((xs,cnt),(0:Int)))->StAt [⟨50,Row.lst [I a5,SV.slc 1 0 m cap,I cnt],3,true⟩,⟨26,Row.vals (vR xs++js),tot,true⟩] 0 1 a5 cnt m cap tot xs js->(∀ (v:Value),List.Mem v js->Value.oneCell' v=true)->Mem.le E E'/\∃ (s:Nat),∃ (h:Nat),∃ (me:Int),∃ (cnt_1:Int),∃ (o:Int),∃ (n:Int),∃ (m_1:Nat),∃ (cap_1:Nat),∃ (tot_1:Nat),∃ (xs_1:List (List Int)),∃ (js_1:List Value),[SV.loc 1 0,I a6,I a7]=[SV.loc s 0,I o,I n]/\StAt [⟨24,Row.lst [I a1,L b2 l3 c4],2,true⟩,⟨50,Row.lst [I a5,SV.slc 2 0 m cap,I cnt],3,true⟩,⟨26,Row.vals (vR xs++js),tot,true⟩] s h me cnt_1 m_1 cap_1 tot_1 xs_1 js_1/\bif decide (idxR o n xs_1<(0:Int)) then Mem.le E E'/\K (SV.tup [L none 0 0,I (4:Int)]) E' else Sx.Alike (AlikeT.n AlikeT.l al2) (∀ (base:Option Addr) (E'_1:Mem),Mem.le E' E'_1->WinE E'_1 base [Value.int IntKind.i64 (2:Int),Value.int IntKind.i64 a6,Value.int IntKind.i64 a7]->∃ (zs:List Int),SL (RK IntKind.i64 1) E'_1 (Option.map (fun (x:Addr)=>Addr.add x 0) base) 3 3 (List.map (fun (z:Int)=>[z]) zs)/\3<=100/\∀ (b':Option Addr) (l' c':Nat) (ys:List Int) (E':Mem),Mem.le E'_1 E'->Hyp (ys=recB zs)->Bs E' b' l' c' ys->∃ (tot_2:Nat),∃ (xs_2:List (List Int)),∃ (js_2:List Value),∃ (zs:List Int),∃ (ds:List Int),Bs E' b2 l3 c4 zs/\Bs E' b' l' c' ds/\l'<=60000/\StAt [⟨24,Row.lst [I a1,L b2 l3 c4],2,true⟩,⟨50,Row.lst [I a5,SV.slc 2 0 m cap,I cnt],3,true⟩,⟨26,Row.vals (vR xs++js),tot,true⟩,⟨3,Row.lst [I (2:Int),I a6,I a7],3,false⟩] 1 2 a5 cnt m cap tot_2 xs_2 js_2/\(∀ (v:Value),List.Mem v js_2->Value.oneCell' v=true)/\∀ (b':Option Addr) (l' c':Nat) (ms:List (Int×List Int)) (e:Int) (E'_2:Mem),Mem.le E' E'_2->Hyp (writeF a5 a1 zs (xs_2,cnt) ds=(ms,e))->FL E'_2 b' l' c' ms->Sx.Alike al2 (Mem.le E E'_2/\K (SV.tup [L b' l' c',I e]) E'_2)))
 have nil:∀ (e:Int) (E':Mem),Mem.le E E'->giveF a5 a1 zs a6 a7=([],e)->K (.tup [L none 0 0,I e]) E':=fun e E' k q=>h none 0 0 [] e E' k q (FL.nil E')
 refine ⟨zs,h0,fun e E1 k1 q1 q2=>⟨k1,e,rfl,?_,mr_,k1,nil e E1 k1 ?_⟩,fun xs cnt m cap tot js E1 k1 q1 S hj=>⟨k1,?_⟩⟩
 ·have:=held_codes q1
  have q2:e≠0:=q2
  omega
 ·unfold giveF
  rw [show heldF a5 a1 zs=(([],0),e) from q1];exact if_pos q2
 have q1:heldF a5 a1 zs=((xs,cnt),0):=q1
 have st:giveF a5 a1 zs a6 a7=if idxR a6 a7 xs<0 then ([],4) else writeF a5 a1 zs (xs,cnt) (recB [2,a6,a7]):=by
  unfold giveF
  rw [q1]
  exact if_neg (by simp)
 refine ⟨1,2,a5,cnt,_,_,m,cap,tot,xs,js,rfl,⟨rfl,rfl,by decide,S.w5,S.len,S.le,S.room⟩,condC (fun g2=>⟨k1,nil 4 E1 k1 (by rw [st,if_pos (by simpa using g2)])⟩) (fun g2=>?_)⟩
 have g2:¬ idxR a6 a7 xs<0:=by simpa using g2
 rw [if_neg g2] at st
 have rl:=recB_len [2,a6,a7]
 refine alike fun base E2 k2 w=>⟨[2,a6,a7],SL.win (RK_ok .i64 (by decide)) w (rs:=([2,a6,a7].map fun z=>[z]).map fun x=>x.map (Value.int .i64)) rfl (SLr_RK (fun x hx=>by obtain ⟨z,_,rfl⟩:=List.mem_map.1 hx;rfl)) rfl (Nat.le_refl _),by decide,fun b' l' c' ys E3 k3 z1 z2=>⟨tot,xs,js,zs,ys,h0.mono (mt_ k1 (mt_ k2 k3)),z2,?_,⟨rfl,rfl,by decide,S.w5,S.len,S.le,S.room⟩,hj,fun b3 l3 c3 ms e E4 k4 z3 z4=>alike ⟨mt_ (mt_ k1 (mt_ k2 k3)) k4,h b3 l3 c3 ms e E4 (mt_ (mt_ k1 (mt_ k2 k3)) k4) ?_ z4⟩⟩⟩
 ·have:=z2.2.1
  rw [show ys=recB [2,a6,a7] from z1] at this
  simp at rl;omega
 ·show giveF a5 a1 zs a6 a7=_
  rw [st,← show ys=recB [2,a6,a7] from z1];exact z3
structure FmOK (a b s':Int) (ys:List Int) (e:Int):Prop where
 eq:formatF a b=((s',ys),e)
theorem j11u {a2:Int} (h:∀ (s':Int) (b':Option Addr) (l' c':Nat) (ys:List Int) (e:Int) (E':Mem),Mem.le E E'->FmOK a1 a2 s' ys e->Bs E' b' l' c' ys->K (.tup [.agg [I s',L b' l' c'],I e]) E'):Ent KL 8 Tryz.f35 [I a1,I a2] E K:=j11 fun s' b' l' c' ys e E' k q hB=>h s' b' l' c' ys e E' k ⟨q⟩ hB
def lastF (f:Int×List Int) (ms:List (Int×List Int)) (e:Int):Int×List Int:=if e≠0\/ms=[] then f else lastM ms
theorem write_num (me s:Int) (zs:List Int) (st:List (List Int)×Int) (b:List Int):(writeF me s zs st b).1.length<=40000:=by
 unfold writeF
 split
 ·split
  ·exact Nat.zero_le _
  ·split
   ·exact Nat.zero_le _
   ·exact compact_num s zs _
 ·exact append_num s zs b
theorem take_num (me s:Int) (zs:List Int) (o n k v a:Int):(takeF me s zs o n k v a).1.length<=40000:=by
 unfold takeF
 repeat' split
 all_goals first|exact Nat.zero_le _|exact write_num ..
theorem give_num (me s:Int) (zs:List Int) (o n:Int):(giveF me s zs o n).1.length<=40000:=by
 unfold giveF
 repeat' split
 all_goals first|exact Nat.zero_le _|exact write_num ..
noncomputable def tab26u:FuncId->List SV->Mem->(SV->Mem->Prop)->Prop:=fun f args E K=>match f with
 | 35=>d2 args fun x0 x1=>dI x0 fun a1=>dI x1 fun a2=>(∀ (s':Int) (b':Option Addr) (l' c':Nat) (ys:List Int) (e:Int) (E':Mem),Mem.le E E'->FmOK a1 a2 s' ys e->Bs E' b' l' c' ys->K (.tup [.agg [I s',L b' l' c'],I e]) E')
 | _=>False
theorem tab26u_ok:TabOK Tryz.prog tab26u:=by
 intro f args E K h
 unfold tab26u at h
 split at h
 ·replace h:=d2_elim h
  obtain ⟨x0,x1,rfl,h⟩:=h
  replace h:=dI_elim h
  obtain ⟨a1,rfl,h⟩:=h
  replace h:=dI_elim h
  obtain ⟨a2,rfl,h⟩:=h
  exact TabSem.congr (valL_cons rfl (valL_cons rfl rfl)) (Ent.sem okKL Tryz.func35 ⟨by kernel_rfl,by kernel_rfl⟩ rfl (j11u h))
 ·exact h.elim
noncomputable def QH:Cx:={ P:=Tryz.prog,inl:=fun f=>List.contains [] f,tab:=tab26u,isB:=fun _=>false,tabB:=fun _ _ _ _ _=>False,opt:={ unroll:=0,carry:=[] },muts:=mutsD }
theorem okQH:CxOK QH:=CxOK.four tab26u_ok (by kernel_rfl) (okInl (by kernel_rfl)) (fun _ _ _ _ _ h=>h.elim)
theorem c13 (h:∀ (s':Int) (b':Option Addr) (l' c':Nat) (ys:List Int) (e:Int) (E':Mem),Mem.le E E'->FmOK 512 4 s' ys e->Bs E' b' l' c' ys->K (.tup [.agg [I s',L b' l' c'],I e]) E'):
  Ent QH 8 Tryz.f13 [] E K:=by
 refine sm_ (?_:∀ (s':Int) (b':Option Addr) (l' c':Nat) (ys:List Int) (e:Int) (E':Mem),Mem.le E E'->FmOK (512:Int) (4:Int) s' ys e->Bs E' b' l' c' ys->Mem.le E E'/\Mem.le E E'/\K (SV.tup [SV.agg [I s',L b' l' c'],I e]) E')
 exact fun s' b' l' c' ys e E' k q hB=>⟨k,k,h s' b' l' c' ys e E' k q hB⟩
noncomputable def QI:Cx:={ P:=Tryz.prog,inl:=fun f=>List.contains [] f,tab:=fun _ _ _ _=>False,isB:=fun _=>false,tabB:=fun _ _ _ _ _=>False,opt:={ unroll:=0,carry:=[] },muts:=mutsD }
theorem okQI:CxOK QI:=CxOK.four (fun _ _ _ _ h=>h.elim) (by kernel_rfl) (okInl (by kernel_rfl)) (fun _ _ _ _ _ h=>h.elim)
theorem c18 {b5:Option Addr} {l6:Nat} {c7:Nat} {a8:Int} {ms:List (Int×List Int)} (h0:Bs E b2 l3 c4 zs) (h1:FL E b5 l6 c7 ms) (h2:l6<=100000) (h:∀ (s':Int) (b':Option Addr) (l' c':Nat) (ys:List Int) (E':Mem),Mem.le E E'->Hyp (lastF (a1,zs) ms a8=(s',ys))->Bs E' b' l' c' ys->K (.agg [I s',L b' l' c']) E'):
  Ent QI 8 Tryz.f14 [.agg [I a1,L b2 l3 c4],L b5 l6 c7,I a8] E K:=by
 refine sm_ (?_:bif a8 !=(0:Int) then Mem.le E E/\K (SV.agg [I a1,L b2 l3 c4]) E else bif bif false then true else (NI l6)==0 then Mem.le E E/\K (SV.agg [I a1,L b2 l3 c4]) E else req ((0:Int)<=WI ((NI l6)-1)/\WI ((NI l6)-1)<(NI l6)) (nE E b5 l6 c7/\∃ (n:Int),∃ (base:Option Addr),∃ (len:Nat),∃ (cap:Nat),LoadE QI.P E 24 (VS b5 l6 c7) (Int.toNat (WI ((NI l6)-1))*2) (SV.agg [I n,L base len cap])/\Mem.le E E/\K (SV.agg [I n,L base len cap]) E))
 delta WI NI VS
 have hl:=h1.len
 refine condC (fun g=>⟨mr_,h _ _ _ _ zs E mr_ (by show lastF _ _ _=_;unfold lastF;exact if_pos (.inl (by simpa using g))) h0⟩) (fun g=>condC (fun g2=>⟨mr_,h _ _ _ _ zs E mr_ (by show lastF _ _ _=_;unfold lastF;exact if_pos (.inr (List.length_eq_zero_iff.1 (by simp at g2;omega)))) h0⟩) (fun g2=>?_))
 have g:a8=0:=by simpa using g
 have g2:0<l6:=by simp at g2;omega
 rw [wrap_i64 (x:=(l6:Int)-1) (by omega),show Int.toNat ((l6:Int)-1)=ms.length-1 by omega]
 obtain ⟨m,hm⟩:∃ m,ms[ms.length-1]? =some m:=⟨_,List.getElem?_eq_getElem (by omega)⟩
 obtain ⟨x1,b',l',c',x2,x3⟩:=h1.load hm
 refine req_intro (by omega) ⟨x1,m.1,b',l',c',x2,mr_,h m.1 b' l' c' m.2 E mr_ ?_ x3⟩
 show lastF _ _ _=_
 unfold lastF
 rw [if_neg (fun q=>q.elim (fun q=>q g) (fun q=>by rw [q] at hl;simp at hl;omega))]
 unfold lastM
 rw [List.getLastD_eq_getLast?,List.getLast?_eq_getElem?,hm];rfl
noncomputable def tab8u:FuncId->List SV->Mem->(SV->Mem->Prop)->Prop:=fun f args E K=>match f with
 | 5=>d2 args fun x0 x1=>dC x0 fun l1=>d2 l1 fun x0_0 x0_1=>dI x0_0 fun a1=>dS x0_1 fun b2 l3 c4=>dI x1 fun a5=>∃ (zs:List Int),Bs E b2 l3 c4 zs/\(∀ (b':Option Addr) (l' c':Nat) (xs:List (List Int)) (cnt e:Int) (E':Mem),Mem.le E E'->Hyp (heldF a5 a1 zs=((xs,cnt),e))->SL (RK .i64 5) E' b' l' c' xs->l'<=16->K (.tup [L b' l' c',I cnt,I e]) E')
 | 7=>d2 args fun x0 x1=>dS x0 fun b1 l2 c3=>dS x1 fun b4 l5 c6=>∃ (xs:List (List Int)) (ys:List (List Int)),SL (RK .i64 5) E b1 l2 c3 xs/\SL (RK .i64 5) E b4 l5 c6 ys/\l2<=1000000/\(K (B (decide (xs=ys))) E)
 | _=>False
theorem tab8u_ok:TabOK Tryz.prog tab8u:=by
 intro f args E K h
 unfold tab8u at h
 split at h
 ·replace h:=d2_elim h
  obtain ⟨x0,x1,rfl,h⟩:=h
  replace h:=dC_elim h
  obtain ⟨l1,hl1,h⟩:=h
  replace h:=d2_elim h
  obtain ⟨x0_0,x0_1,rfl,h⟩:=h
  replace h:=dI_elim h
  obtain ⟨a1,rfl,h⟩:=h
  replace h:=dS_elim h
  obtain ⟨b2,l3,c4,rfl,h⟩:=h
  replace h:=dI_elim h
  obtain ⟨a5,rfl,h⟩:=h
  obtain ⟨zs,g0,h⟩:=h
  exact TabSem.congr (valL_cons (asCells_val hl1) (valL_cons rfl rfl)) (Ent.sem okQE Tryz.func5 ⟨by kernel_rfl,by kernel_rfl⟩ rfl (c8 g0 h))
 ·replace h:=d2_elim h
  obtain ⟨x0,x1,rfl,h⟩:=h
  replace h:=dS_elim h
  obtain ⟨b1,l2,c3,rfl,h⟩:=h
  replace h:=dS_elim h
  obtain ⟨b4,l5,c6,rfl,h⟩:=h
  obtain ⟨xs,ys,g0,g1,g2,h⟩:=h
  exact TabSem.congr (valL_cons rfl (valL_cons rfl rfl)) (Ent.sem okQ9 Tryz.func7 ⟨by kernel_rfl,by kernel_rfl⟩ rfl (c27 g0 g1 g2 h))
 ·exact h.elim
noncomputable def QJ:Cx:={ P:=Tryz.prog,inl:=fun f=>List.contains [] f,tab:=tab8u,isB:=fun _=>false,tabB:=fun _ _ _ _ _=>False,opt:={ unroll:=0,carry:=[] },muts:=mutsD }
theorem okQJ:CxOK QJ:=CxOK.four tab8u_ok (by kernel_rfl) (okInl (by kernel_rfl)) (fun _ _ _ _ _ h=>h.elim)
theorem c17 {b6:Option Addr} {l7:Nat} {c8:Nat} {a9:Int} (h0:Bs E b2 l3 c4 zs) (h1:SL (RK .i64 5) E b6 l7 c8 want) (h:∀ E':Mem,Mem.le E E'->K (B (decide (heldF a5 a1 zs=((want,a9),0)))) E'):
  Ent QJ 8 Tryz.f15 [.agg [I a1,L b2 l3 c4],I a5,L b6 l7 c8,I a9] E K:=by
 refine sm_ (?_:∃ (zs:List Int),Bs E b2 l3 c4 zs/\∀ (b':Option Addr) (l' c':Nat) (xs:List (List Int)) (cnt e:Int) (E':Mem),Mem.le E E'->Hyp (heldF a5 a1 zs=((xs,cnt),e))->SL (RK IntKind.i64 5) E' b' l' c' xs->l'<=16->Mem.le E E'/\bif e==(0:Int) then ∃ (xs:List (List Int)),∃ (ys:List (List Int)),SL (RK IntKind.i64 5) E' b' l' c' xs/\SL (RK IntKind.i64 5) E' b6 l7 c8 ys/\l'<=1000000/\Mem.le E' E'/\bif bif true then decide (xs=ys) else false then Mem.le E E'/\K (B (bif true then cnt==a9 else false)) E' else Mem.le E E'/\K (B false) E' else Mem.le E E'/\K (B false) E')
 refine ⟨zs,h0,fun b' l' c' xs cnt e E1 k1 q1 q2 q3=>⟨k1,?_⟩⟩
 have q1:heldF a5 a1 zs=((xs,cnt),e):=q1
 have r:=h E1 k1
 rw [q1] at r
 refine condC (fun g=>⟨xs,want,q2,h1.mono (RK_ok .i64 (by decide)) k1,by omega,mr_,condC (fun g2=>⟨k1,?_⟩) (fun g2=>⟨k1,?_⟩)⟩) (fun g=>⟨k1,?_⟩)
 ·have g:e=0:=by simpa using g
  have g2:xs=want:=by simpa using g2
  subst g;subst g2
  have :decide (((xs,cnt),(0:Int))=((xs,a9),0))=(cnt==a9):=by rw [Bool.eq_iff_iff];simp
  rw [this] at r;exact r
 ·have g2:xs≠want:=by simpa using g2
  rw [decide_eq_false (by simp [g2])] at r;exact r
 ·have g:e≠0:=by simpa using g
  rw [decide_eq_false (by simp [g])] at r;exact r
structure SI (me s:Int) (zs:List Int) (st:List (List Int)×Int) (k:Nat):Prop where
 hm:0<=me/\me<=59
 ex:∃ ls a g,Jo s zs ls a g 1024/\Er zs (a+5+needF ls) (a+1024)/\foldF me ls ([],0)=some st/\g<=k
theorem SI.held {k:Nat} (h:SI me s zs st k):heldF me s zs=(st,0):=by
 obtain ⟨ls,a,g,J,_,hf,_⟩:=h.ex
 exact held_of h.hm J.read hf
theorem SI.inv {k:Nat} (h:SI me s zs st k):Inv me st:=held_inv h.held
theorem needF_le {n:Nat}:∀ {ls:List (List Int)},(∀ d∈ls,d.length<=n)->needF ls<=ls.length*(n+11)
 | [],_=>by simp [needF]
 | d::ls,h=>by
  have h1:=needF_le fun x hx=>h x (List.mem_cons_of_mem _ hx)
  have h2:=h d (by simp)
  rw [needF_cons,List.length_cons,Nat.succ_mul]
  omega
theorem keep_need (I:Inv me st):5+needF (keepF st)<=1024:=by
 obtain ⟨_,h1,h2⟩:=keep_sm I
 have:=needF_le h1
 have :(keepF st).length*(42+11)<=17*(42+11):=Nat.mul_le_mul_right _ h2
 omega
theorem SI.write {b l:List Int} {st':List (List Int)×Int} {k:Nat} (h:SI me s zs st k) (hb:numsF b=some l) (ha:appF me st l=some st') (hd:b.length<65536/\∀ x∈b,0<=x/\x<=255) (hk:k<4294967295):
  ∃ X w,writeF me s zs st b=(X++[(s,w)],0)/\SI me s w st' (k+1):=by
 obtain ⟨ls,a,g,J,he,hf,hg⟩:=h.ex
 have I':=(h.inv.app ha).1
 rcases J.clean_append he hd with ⟨e1,_⟩|⟨_,X,w,e1,_,_,J',he'⟩
 ·have ks:=keep_sm I'
  have kn:=keep_need I'
  rcases J.compact ks.1 with ⟨_,e3⟩|⟨_,_,X,w,o,e2,_,_,_,J',he'⟩
  ·rcases e3 with e3|e3<;>omega
  ·refine ⟨X,w,?_,h.hm,keepF st',o,g+1,J',he',keep_fold I',by omega⟩
   unfold writeF
   rw [e1,if_pos rfl,hb]
   simp only [ha]
   exact e2
 ·refine ⟨X,w,?_,h.hm,ls++[b],a,g,J',he',?_,by omega⟩
  ·unfold writeF
   rw [e1,if_neg (by simp)]
  ·rw [foldF_app,hf]
   simp only [Option.bind_some,foldF,hb,ha]
theorem SI.format (hm:0<=me/\me<=59) (h:FmOK 512 4 s zs e) (he:e=0):SI me s zs ([],0) 0:=by
 have h:=h.eq
 subst he
 have nf:newF 512 4=((512,List.replicate 2048 255),0):=by decide+kernel
 obtain ⟨rfl,hh,J,he⟩:=Jo_format h
 have e2:(zs.length:Int)=2048:=by
  rw [formatF_ok nf (by decide+kernel)] at h
  rw [← (Prod.mk.inj (Prod.mk.inj h).1).2]
  simp
 have sz:=J.sz
 have :hh=1024:=by omega
 subst this
 exact ⟨hm,[],0,0,J,by rw [show 0+5+needF []=5 from rfl,Nat.zero_add];exact he,rfl,by omega⟩
theorem fmt_zero (h:FmOK 512 4 s zs e):e=0:=by
 have h:=h.eq
 have nf:newF 512 4=((512,List.replicate 2048 255),0):=by decide+kernel
 rw [formatF_ok nf (by decide+kernel)] at h
 exact (Prod.mk.inj h).2.symm
theorem idx_any:(0<=idxR o n xs)↔xs.any (isN o n)=true:=by
 constructor
 ·intro h
  obtain ⟨i,x,_,h2,h3⟩:=idxR_nonneg h
  exact List.any_eq_true.2 ⟨x,List.mem_of_getElem? h2,h3⟩
 ·intro h
  obtain ⟨x,hx,hp⟩:=List.any_eq_true.1 h
  refine Int.not_lt.1 fun q=>?_
  have:=idxR_neg q x hx
  simp_all
def seqT (me:Int) (st:List (List Int)×Int) (o n k v a:Int):Int:=
 if okR o n k v a=false then 1 else if st.1.any (isN o n)=true then 5 else if o=me/\n<=st.2 then 14 else if st.1.length=16 then 10 else 0
theorem SI.take {j:Nat} (h:SI me s zs st j) (hj:j<4294967295):
  (seqT me st o n k v a≠0/\takeF me s zs o n k v a=([],seqT me st o n k v a))\/
  (seqT me st o n k v a=0/\∃ X w,takeF me s zs o n k v a=(X++[(s,w)],0)/\SI me s w (st.1++[[o,n,k,v,a]],if o=me then n else st.2) (j+1)):=by
 have eT:takeF me s zs o n k v a=if okR o n k v a=false then ([],1) else if 0<=idxR o n st.1 then ([],5) else if o=me/\n<=st.2 then ([],14) else if st.1.length=16 then ([],10) else writeF me s zs st (recB [1,o,n,k,v,a]):=by
  unfold takeF;rw [h.held];exact if_neg (by simp)
 unfold seqT
 by_cases q1:okR o n k v a=false
 ·rw [if_pos q1] at eT ⊢;exact .inl ⟨by decide,eT⟩
 rw [if_neg q1] at eT ⊢
 by_cases q2:0<=idxR o n st.1
 ·rw [if_pos q2] at eT;rw [if_pos (idx_any.1 q2)];exact .inl ⟨by decide,eT⟩
 rw [if_neg q2] at eT;rw [if_neg (fun w=>q2 (idx_any.2 w))]
 by_cases q3:o=me/\n<=st.2
 ·rw [if_pos q3] at eT ⊢;exact .inl ⟨by decide,eT⟩
 rw [if_neg q3] at eT ⊢
 by_cases q4:st.1.length=16
 ·rw [if_pos q4] at eT ⊢;exact .inl ⟨by decide,eT⟩
 rw [if_neg q4] at eT ⊢
 have q1:okR o n k v a=true:=by simpa using q1
 have ap:=app_take (me:=me) q1 (Int.not_le.1 q2) q4
 have em:(if o=me then mx n st.2 else st.2)=if o=me then n else st.2:=by
  split
  ·rename_i e;unfold mx;rw [if_pos (Int.not_le.1 fun w=>q3 ⟨e,w⟩)]
  ·rfl
 rw [em] at ap
 have on:=okN_take q1
 obtain ⟨X,w,e,S⟩:=h.write (nums_rec on) ap ⟨by have:=rec_len on;simp at this;omega,rec_byte on⟩ hj
 exact .inr ⟨rfl,X,w,eT.trans e,S⟩
theorem SI.give {j:Nat} (h:SI me s zs st j) (hj:j<4294967295):
  (st.1.any (isN o n)=false/\giveF me s zs o n=([],4))\/
  (st.1.any (isN o n)=true/\∃ X w,giveF me s zs o n=(X++[(s,w)],0)/\SI me s w (st.1.filter fun x=> !isN o n x,st.2) (j+1)):=by
 have eT:giveF me s zs o n=if idxR o n st.1<0 then ([],4) else writeF me s zs st (recB [2,o,n]):=by
  unfold giveF;rw [h.held];exact if_neg (by simp)
 by_cases q1:idxR o n st.1<0
 ·rw [if_pos q1] at eT
  refine .inl ⟨?_,eT⟩
  cases q:st.1.any (isN o n) with
  | false=>rfl
  | true=>have:=idx_any.2 q;omega
 ·rw [if_neg q1] at eT
  have q2:0<=idxR o n st.1:=Int.not_lt.1 q1
  obtain ⟨i,x,ei,hx,hp⟩:=idxR_nonneg q2
  have px:=isN_iff.1 hp
  have okx:=okR_iff.1 (h.inv.ok x (List.mem_of_getElem? hx))
  rw [px.1,px.2] at okx
  have on:=okN_give ⟨okx.1,okx.2.1⟩
  have ap:=app_give (me:=me) q2
  rw [erase_filter h.inv q2] at ap
  obtain ⟨X,w,e,S⟩:=h.write (nums_rec on) ap ⟨by have:=rec_len on;simp at this;omega,rec_byte on⟩ hj
  exact .inr ⟨idx_any.1 q2,X,w,eT.trans e,S⟩
theorem last_snoc {f:Int×List Int} {X:List (Int×List Int)} {m:Int×List Int}:lastF f (X++[m]) 0=m:=by
 unfold lastF lastM
 rw [if_neg (by simp)]
 simp [List.getLastD_eq_getLast?]
noncomputable def tab7u:FuncId->List SV->Mem->(SV->Mem->Prop)->Prop:=fun f args E K=>match f with
 | 13=>d0 args ((∀ (s':Int) (b':Option Addr) (l' c':Nat) (ys:List Int) (e:Int) (E':Mem),Mem.le E E'->FmOK 512 4 s' ys e->Bs E' b' l' c' ys->K (.tup [.agg [I s',L b' l' c'],I e]) E'))
 | 8=>d3 args fun x0 x1 x2=>dC x0 fun l1=>d2 l1 fun x0_0 x0_1=>dI x0_0 fun a1=>dS x0_1 fun b2 l3 c4=>dI x1 fun a5=>dC x2 fun l2=>d5 l2 fun x2_0 x2_1 x2_2 x2_3 x2_4=>dI x2_0 fun a6=>dI x2_1 fun a7=>dI x2_2 fun a8=>dI x2_3 fun a9=>dI x2_4 fun a10=>∃ (zs:List Int),Bs E b2 l3 c4 zs/\(∀ (b':Option Addr) (l' c':Nat) (ms:List (Int×List Int)) (e:Int) (E':Mem),Mem.le E E'->Hyp (takeF a5 a1 zs a6 a7 a8 a9 a10=(ms,e))->FL E' b' l' c' ms->K (.tup [L b' l' c',I e]) E')
 | 11=>d4 args fun x0 x1 x2 x3=>dC x0 fun l1=>d2 l1 fun x0_0 x0_1=>dI x0_0 fun a1=>dS x0_1 fun b2 l3 c4=>dI x1 fun a5=>dI x2 fun a6=>dI x3 fun a7=>∃ (zs:List Int),Bs E b2 l3 c4 zs/\(∀ (b':Option Addr) (l' c':Nat) (ms:List (Int×List Int)) (e:Int) (E':Mem),Mem.le E E'->Hyp (giveF a5 a1 zs a6 a7=(ms,e))->FL E' b' l' c' ms->K (.tup [L b' l' c',I e]) E')
 | 14=>d3 args fun x0 x1 x2=>dC x0 fun l1=>d2 l1 fun x0_0 x0_1=>dI x0_0 fun a1=>dS x0_1 fun b2 l3 c4=>dS x1 fun b5 l6 c7=>dI x2 fun a8=>∃ (zs:List Int) (ms:List (Int×List Int)),Bs E b2 l3 c4 zs/\FL E b5 l6 c7 ms/\l6<=100000/\(∀ (s':Int) (b':Option Addr) (l' c':Nat) (ys:List Int) (E':Mem),Mem.le E E'->Hyp (lastF (a1,zs) ms a8=(s',ys))->Bs E' b' l' c' ys->K (.agg [I s',L b' l' c']) E')
 | 15=>d4 args fun x0 x1 x2 x3=>dC x0 fun l1=>d2 l1 fun x0_0 x0_1=>dI x0_0 fun a1=>dS x0_1 fun b2 l3 c4=>dI x1 fun a5=>dS x2 fun b6 l7 c8=>dI x3 fun a9=>∃ (zs:List Int) (want:List (List Int)),Bs E b2 l3 c4 zs/\SL (RK .i64 5) E b6 l7 c8 want/\(∀ E':Mem,Mem.le E E'->K (B (decide (heldF a5 a1 zs=((want,a9),0)))) E')
 | _=>False
theorem tab7u_ok:TabOK Tryz.prog tab7u:=by
 intro f args E K h
 unfold tab7u at h
 split at h
 ·obtain ⟨rfl,h⟩:=d0_elim h
  exact TabSem.congr rfl (Ent.sem okQH Tryz.func13 ⟨by kernel_rfl,by kernel_rfl⟩ rfl (c13 h))
 ·replace h:=d3_elim h
  obtain ⟨x0,x1,x2,rfl,h⟩:=h
  replace h:=dC_elim h
  obtain ⟨l1,hl1,h⟩:=h
  replace h:=d2_elim h
  obtain ⟨x0_0,x0_1,rfl,h⟩:=h
  replace h:=dI_elim h
  obtain ⟨a1,rfl,h⟩:=h
  replace h:=dS_elim h
  obtain ⟨b2,l3,c4,rfl,h⟩:=h
  replace h:=dI_elim h
  obtain ⟨a5,rfl,h⟩:=h
  replace h:=dC_elim h
  obtain ⟨l2,hl2,h⟩:=h
  replace h:=d5_elim h
  obtain ⟨x2_0,x2_1,x2_2,x2_3,x2_4,rfl,h⟩:=h
  replace h:=dI_elim h
  obtain ⟨a6,rfl,h⟩:=h
  replace h:=dI_elim h
  obtain ⟨a7,rfl,h⟩:=h
  replace h:=dI_elim h
  obtain ⟨a8,rfl,h⟩:=h
  replace h:=dI_elim h
  obtain ⟨a9,rfl,h⟩:=h
  replace h:=dI_elim h
  obtain ⟨a10,rfl,h⟩:=h
  obtain ⟨zs,g0,h⟩:=h
  exact TabSem.congr (valL_cons (asCells_val hl1) (valL_cons rfl (valL_cons (asCells_val hl2) rfl))) (Ent.sem okQG Tryz.func8 ⟨by kernel_rfl,by kernel_rfl⟩ rfl (c9 g0 h))
 ·replace h:=d4_elim h
  obtain ⟨x0,x1,x2,x3,rfl,h⟩:=h
  replace h:=dC_elim h
  obtain ⟨l1,hl1,h⟩:=h
  replace h:=d2_elim h
  obtain ⟨x0_0,x0_1,rfl,h⟩:=h
  replace h:=dI_elim h
  obtain ⟨a1,rfl,h⟩:=h
  replace h:=dS_elim h
  obtain ⟨b2,l3,c4,rfl,h⟩:=h
  replace h:=dI_elim h
  obtain ⟨a5,rfl,h⟩:=h
  replace h:=dI_elim h
  obtain ⟨a6,rfl,h⟩:=h
  replace h:=dI_elim h
  obtain ⟨a7,rfl,h⟩:=h
  obtain ⟨zs,g0,h⟩:=h
  exact TabSem.congr (valL_cons (asCells_val hl1) (valL_cons rfl (valL_cons rfl (valL_cons rfl rfl)))) (Ent.sem okQG Tryz.func11 ⟨by kernel_rfl,by kernel_rfl⟩ rfl (c11 g0 h))
 ·replace h:=d3_elim h
  obtain ⟨x0,x1,x2,rfl,h⟩:=h
  replace h:=dC_elim h
  obtain ⟨l1,hl1,h⟩:=h
  replace h:=d2_elim h
  obtain ⟨x0_0,x0_1,rfl,h⟩:=h
  replace h:=dI_elim h
  obtain ⟨a1,rfl,h⟩:=h
  replace h:=dS_elim h
  obtain ⟨b2,l3,c4,rfl,h⟩:=h
  replace h:=dS_elim h
  obtain ⟨b5,l6,c7,rfl,h⟩:=h
  replace h:=dI_elim h
  obtain ⟨a8,rfl,h⟩:=h
  obtain ⟨zs,ms,g0,g1,g2,h⟩:=h
  exact TabSem.congr (valL_cons (asCells_val hl1) (valL_cons rfl (valL_cons rfl rfl))) (Ent.sem okQI Tryz.func14 ⟨by kernel_rfl,by kernel_rfl⟩ rfl (c18 g0 g1 g2 h))
 ·replace h:=d4_elim h
  obtain ⟨x0,x1,x2,x3,rfl,h⟩:=h
  replace h:=dC_elim h
  obtain ⟨l1,hl1,h⟩:=h
  replace h:=d2_elim h
  obtain ⟨x0_0,x0_1,rfl,h⟩:=h
  replace h:=dI_elim h
  obtain ⟨a1,rfl,h⟩:=h
  replace h:=dS_elim h
  obtain ⟨b2,l3,c4,rfl,h⟩:=h
  replace h:=dI_elim h
  obtain ⟨a5,rfl,h⟩:=h
  replace h:=dS_elim h
  obtain ⟨b6,l7,c8,rfl,h⟩:=h
  replace h:=dI_elim h
  obtain ⟨a9,rfl,h⟩:=h
  obtain ⟨zs,want,g0,g1,h⟩:=h
  exact TabSem.congr (valL_cons (asCells_val hl1) (valL_cons rfl (valL_cons rfl (valL_cons rfl rfl)))) (Ent.sem okQJ Tryz.func15 ⟨by kernel_rfl,by kernel_rfl⟩ rfl (c17 g0 g1 h))
 ·exact h.elim
noncomputable def QM:Cx:={ P:=Tryz.prog,inl:=fun f=>List.contains [] f,tab:=tab7u,isB:=fun _=>false,tabB:=fun _ _ _ _ _=>False,opt:={ unroll:=0,carry:=[] },muts:=(fun o=>match o with | .buildSlice .. =>true| .alloc .. =>true|o=>mutsD o) }
theorem okQM:CxOK QM:=CxOK.four tab7u_ok (by kernel_rfl) (okInl (by kernel_rfl)) (fun _ _ _ _ _ h=>h.elim)
theorem c7 (h:∀ E':Mem,Mem.le E E'->K (B true) E'):
  Ent QM 8 Tryz.f4 [] E K:=by
 refine sm_ (?_:∀ (s':Int) (b':Option Addr) (l' c':Nat) (ys:List Int) (e:Int) (E':Mem),Mem.le E E'->FmOK (512:Int) (4:Int) s' ys e->Bs E' b' l' c' ys->Mem.le E E'/\∃ (zs:List Int),Bs E' b' l' c' zs/\∀ (b'_1:Option Addr) (l'_1 c'_1:Nat) (ms:List (Int×List Int)) (e_1:Int) (E'_1:Mem),Mem.le E' E'_1->Hyp (takeF (3:Int) s' zs (3:Int) (1:Int) (0:Int) (70:Int) (5:Int)=(ms,e_1))->FL E'_1 b'_1 l'_1 c'_1 ms->Mem.le E' E'_1/\∃ (zs:List Int),∃ (ms:List (Int×List Int)),Bs E'_1 b' l' c' zs/\FL E'_1 b'_1 l'_1 c'_1 ms/\l'_1<=100000/\∀ (s'_1:Int) (b'_2:Option Addr) (l'_2 c'_2:Nat) (ys:List Int) (E':Mem),Mem.le E'_1 E'->Hyp (lastF (s',zs) ms e_1=(s'_1,ys))->Bs E' b'_2 l'_2 c'_2 ys->Mem.le E'_1 E'/\∃ (zs:List Int),Bs E' b'_2 l'_2 c'_2 zs/\∀ (b'_3:Option Addr) (l'_3 c'_3:Nat) (ms:List (Int×List Int)) (e_2:Int) (E'_2:Mem),Mem.le E' E'_2->Hyp (takeF (3:Int) s'_1 zs (7:Int) (9:Int) (1:Int) (0:Int) (0:Int)=(ms,e_2))->FL E'_2 b'_3 l'_3 c'_3 ms->Mem.le E' E'_2/\∃ (zs:List Int),∃ (ms:List (Int×List Int)),Bs E'_2 b'_2 l'_2 c'_2 zs/\FL E'_2 b'_3 l'_3 c'_3 ms/\l'_3<=100000/\∀ (s'_2:Int) (b'_4:Option Addr) (l'_4 c'_4:Nat) (ys:List Int) (E':Mem),Mem.le E'_2 E'->Hyp (lastF (s'_1,zs) ms e_2=(s'_2,ys))->Bs E' b'_4 l'_4 c'_4 ys->Mem.le E'_2 E'/\∃ (zs:List Int),Bs E' b'_4 l'_4 c'_4 zs/\∀ (b'_5:Option Addr) (l'_5 c'_5:Nat) (ms:List (Int×List Int)) (e_3:Int) (E'_3:Mem),Mem.le E' E'_3->Hyp (giveF (3:Int) s'_2 zs (3:Int) (1:Int)=(ms,e_3))->FL E'_3 b'_5 l'_5 c'_5 ms->Mem.le E' E'_3/\∃ (zs:List Int),∃ (ms:List (Int×List Int)),Bs E'_3 b'_4 l'_4 c'_4 zs/\FL E'_3 b'_5 l'_5 c'_5 ms/\l'_5<=100000/\∀ (s'_3:Int) (b'_6:Option Addr) (l'_6 c'_6:Nat) (ys:List Int) (E':Mem),Mem.le E'_3 E'->Hyp (lastF (s'_2,zs) ms e_3=(s'_3,ys))->Bs E' b'_6 l'_6 c'_6 ys->Mem.le E'_3 E'/\∃ (zs:List Int),Bs E' b'_6 l'_6 c'_6 zs/\∀ (b'_7:Option Addr) (l'_7 c'_7:Nat) (ms:List (Int×List Int)) (e_4:Int) (E'_4:Mem),Mem.le E' E'_4->Hyp (takeF (3:Int) s'_3 zs (3:Int) (1:Int) (0:Int) (70:Int) (5:Int)=(ms,e_4))->FL E'_4 b'_7 l'_7 c'_7 ms->Mem.le E' E'_4/\∃ (zs:List Int),Bs E'_4 b'_6 l'_6 c'_6 zs/\∀ (b'_8:Option Addr) (l'_8 c'_8:Nat) (ms:List (Int×List Int)) (e_5:Int) (E':Mem),Mem.le E'_4 E'->Hyp (takeF (3:Int) s'_3 zs (7:Int) (9:Int) (1:Int) (0:Int) (0:Int)=(ms,e_5))->FL E' b'_8 l'_8 c'_8 ms->Mem.le E'_4 E'/\∃ (zs:List Int),Bs E' b'_6 l'_6 c'_6 zs/\∀ (b'_9:Option Addr) (l'_9 c'_9:Nat) (ms:List (Int×List Int)) (e_6:Int) (E'_5:Mem),Mem.le E' E'_5->Hyp (giveF (3:Int) s'_3 zs (3:Int) (1:Int)=(ms,e_6))->FL E'_5 b'_9 l'_9 c'_9 ms->Mem.le E' E'_5/\bif e==(0:Int) then bif bif true then e_1==(0:Int) else false then bif bif true then e_2==(0:Int) else false then bif bif true then e_3==(0:Int) else false then bif bif true then e_4==(14:Int) else false then bif bif true then e_5==(5:Int) else false then bif bif true then e_6==(4:Int) else false then ∃ (zs:List Int),∃ (want:List (List Int)),Bs E'_5 b' l' c' zs/\SL (RK IntKind.i64 (5:Nat)) E'_5 none (0:Nat) (0:Nat) want/\∀ (E':Mem),Mem.le E'_5 E'->Mem.le E'_5 E'/\bif bif true then decide (heldF (3:Int) s' zs=((want,(0:Int)),(0:Int))) else false then ∀ (base:Option Addr) (E'_6:Mem),Mem.le E' E'_6->WinE E'_6 base [Value.int IntKind.i64 (3:Int),Value.int IntKind.i64 (1:Int),Value.int IntKind.i64 (0:Int),Value.int IntKind.i64 (70:Int),Value.int IntKind.i64 (5:Int)]->∃ (zs:List Int),∃ (want:List (List Int)),Bs E'_6 b'_2 l'_2 c'_2 zs/\SL (RK IntKind.i64 (5:Nat)) E'_6 (Option.map (fun (x:Addr)=>Addr.add x (0:Nat)) base) (1:Nat) (1:Nat) want/\∀ (E':Mem),Mem.le E'_6 E'->bif bif true then decide (heldF (3:Int) s'_1 zs=((want,(1:Int)),(0:Int))) else false then ∀ (base:Option Addr) (E'_7:Mem),Mem.le E' E'_7->WinE E'_7 base [Value.int IntKind.i64 (3:Int),Value.int IntKind.i64 (1:Int),Value.int IntKind.i64 (0:Int),Value.int IntKind.i64 (70:Int),Value.int IntKind.i64 (5:Int),Value.int IntKind.i64 (7:Int),Value.int IntKind.i64 (9:Int),Value.int IntKind.i64 (1:Int),Value.int IntKind.i64 (0:Int),Value.int IntKind.i64 (0:Int)]->∃ (zs:List Int),∃ (want:List (List Int)),Bs E'_7 b'_4 l'_4 c'_4 zs/\SL (RK IntKind.i64 (5:Nat)) E'_7 (Option.map (fun (x:Addr)=>Addr.add x (0:Nat)) base) (2:Nat) (2:Nat) want/\∀ (E':Mem),Mem.le E'_7 E'->bif bif true then decide (heldF (3:Int) s'_2 zs=((want,(1:Int)),(0:Int))) else false then ∀ (base:Option Addr) (E'_8:Mem),Mem.le E' E'_8->WinE E'_8 base [Value.int IntKind.i64 (7:Int),Value.int IntKind.i64 (9:Int),Value.int IntKind.i64 (1:Int),Value.int IntKind.i64 (0:Int),Value.int IntKind.i64 (0:Int)]->∃ (zs:List Int),∃ (want:List (List Int)),Bs E'_8 b'_6 l'_6 c'_6 zs/\SL (RK IntKind.i64 (5:Nat)) E'_8 (Option.map (fun (x:Addr)=>Addr.add x (0:Nat)) base) (1:Nat) (1:Nat) want/\∀ (E':Mem),Mem.le E'_8 E'->Mem.le E E'/\K (B (bif true then decide (heldF (3:Int) s'_3 zs=((want,(1:Int)),(0:Int))) else false)) E' else Mem.le E E'/\K (B false) E' else Mem.le E E'/\K (B false) E' else Mem.le E E'/\K (B false) E' else Mem.le E E'_5/\K (B false) E'_5 else Mem.le E E'_5/\K (B false) E'_5 else Mem.le E E'_5/\K (B false) E'_5 else Mem.le E E'_5/\K (B false) E'_5 else Mem.le E E'_5/\K (B false) E'_5 else Mem.le E E'_5/\K (B false) E'_5 else Mem.le E E'_5/\K (B false) E'_5)
 refine fun s0 b0 l0 c0 y0 e0 E0 k0 F0 B0=>⟨k0,y0,B0,fun bA lA cA mA eA E1 k1 nA FA=>⟨k1,y0,mA,B0.mono k1,FA,?lA,fun s1 b1 l1 c1 y1 E2 k2 n1 B1=>⟨k2,y1,B1,fun bB lB cB mB eB E3 k3 nB FB=>⟨k3,y1,mB,B1.mono k3,FB,?lB,fun s2 b2 l2 c2 y2 E4 k4 n2 B2=>⟨k4,y2,B2,fun bC lC cC mC eC E5 k5 nC FC=>⟨k5,y2,mC,B2.mono k5,FC,?lC,fun s3 b3 l3 c3 y3 E6 k6 n3 B3=>⟨k6,y3,B3,fun bD lD cD mD eD E7 k7 nD FD=>⟨k7,y3,B3.mono k7,fun bE lE cE mE eE E8 k8 nE FE=>⟨k8,y3,B3.mono (mt_ k7 k8),fun bF lF cF mF eF E9 k9 nF FF=>⟨k9,?main⟩⟩⟩⟩⟩⟩⟩⟩⟩⟩
 case lA=>
  have:=take_num 3 s0 y0 3 1 0 70 5
  rw [show takeF 3 s0 y0 3 1 0 70 5=(mA,eA) from nA] at this
  have:=FA.len
  simp at *;omega
 case lB=>
  have:=take_num 3 s1 y1 7 9 1 0 0
  rw [show takeF 3 s1 y1 7 9 1 0 0=(mB,eB) from nB] at this
  have:=FB.len
  simp at *;omega
 case lC=>
  have:=give_num 3 s2 y2 3 1
  rw [show giveF 3 s2 y2 3 1=(mC,eC) from nC] at this
  have:=FC.len
  simp at *;omega
 case main=>
  have he:=fmt_zero F0
  have S0:SI 3 s0 y0 ([],0) 0:=SI.format (by decide) F0 he
  obtain ⟨_,X1,w1,q1,S1⟩:=(S0.take (o:=3) (n:=1) (k:=0) (v:=70) (a:=5) (by decide)).resolve_left (fun q=>q.1 (by decide))
  rw [q1] at nA
  obtain ⟨rfl,rfl⟩:=Prod.mk.inj (show (X1++[(s0,w1)],(0:Int))=(mA,eA) from nA)
  have n1:lastF (s0,y0) (X1++[(s0,w1)]) 0=(s1,y1):=n1
  rw [last_snoc] at n1
  obtain ⟨rfl,rfl⟩:=Prod.mk.inj n1
  have S1:SI 3 s0 w1 ([[3,1,0,70,5]],1) 1:=S1
  obtain ⟨_,X2,w2,q2,S2⟩:=(S1.take (o:=7) (n:=9) (k:=1) (v:=0) (a:=0) (by decide)).resolve_left (fun q=>q.1 (by decide))
  rw [q2] at nB
  obtain ⟨rfl,rfl⟩:=Prod.mk.inj (show (X2++[(s0,w2)],(0:Int))=(mB,eB) from nB)
  have n2:lastF (s0,w1) (X2++[(s0,w2)]) 0=(s2,y2):=n2
  rw [last_snoc] at n2
  obtain ⟨rfl,rfl⟩:=Prod.mk.inj n2
  have S2:SI 3 s0 w2 ([[3,1,0,70,5],[7,9,1,0,0]],1) 2:=S2
  obtain ⟨_,X3,w3,q3,S3⟩:=(S2.give (o:=3) (n:=1) (by decide)).resolve_left (fun q=>absurd q.1 (by decide))
  rw [q3] at nC
  obtain ⟨rfl,rfl⟩:=Prod.mk.inj (show (X3++[(s0,w3)],(0:Int))=(mC,eC) from nC)
  have n3:lastF (s0,w2) (X3++[(s0,w3)]) 0=(s3,y3):=n3
  rw [last_snoc] at n3
  obtain ⟨rfl,rfl⟩:=Prod.mk.inj n3
  have S3:SI 3 s0 w3 ([[7,9,1,0,0]],1) 3:=S3
  have q4:=((S3.take (o:=3) (n:=1) (k:=0) (v:=70) (a:=5) (by decide)).resolve_right (fun q=>absurd q.1 (by decide))).2
  rw [q4] at nD
  have eD4:eD=14:=(Prod.mk.inj (show (([]:List (Int×List Int)),seqT 3 ([[7,9,1,0,0]],1) 3 1 0 70 5)=(mD,eD) from nD)).2.symm
  have q5:=((S3.take (o:=7) (n:=9) (k:=1) (v:=0) (a:=0) (by decide)).resolve_right (fun q=>absurd q.1 (by decide))).2
  rw [q5] at nE
  have eE4:eE=5:=(Prod.mk.inj (show (([]:List (Int×List Int)),seqT 3 ([[7,9,1,0,0]],1) 7 9 1 0 0)=(mE,eE) from nE)).2.symm
  have q6:=((S3.give (o:=3) (n:=1) (by decide)).resolve_right (fun q=>absurd q.1 (by decide))).2
  rw [q6] at nF
  have eF4:eF=4:=(Prod.mk.inj (show (([]:List (Int×List Int)),(4:Int))=(mF,eF) from nF)).2.symm
  subst he;subst eD4;subst eE4;subst eF4
  have kAll:Mem.le E E9:=mt_ k0 (mt_ k1 (mt_ k2 (mt_ k3 (mt_ k4 (mt_ k5 (mt_ k6 (mt_ k7 (mt_ k8 k9))))))))
  have kB3:Mem.le E6 E9:=mt_ k7 (mt_ k8 k9)
  have kB2:Mem.le E4 E9:=mt_ k5 (mt_ k6 kB3)
  have kB1:Mem.le E2 E9:=mt_ k3 (mt_ k4 kB2)
  have kB0:Mem.le E0 E9:=mt_ k1 (mt_ k2 kB1)
  have rr:∀ {xs:List (List Int)} {vs:List Value} {base:Option Addr} {E1:Mem} {n:Nat},WinE E1 base vs->vs=vR xs->W5 xs->xs.length=n->SL (RK .i64 5) E1 (base.map fun x=>x.add 0) n n xs:=fun w e h5 hn=>vR_win h5 hn (Nat.le_refl _) (by rw [← e];exact w)
  refine condC (fun _=>condC (fun _=>condC (fun _=>condC (fun _=>condC (fun _=>condC (fun _=>condC (fun _=>?_) (fun v=>absurd v (by decide))) (fun v=>absurd v (by decide))) (fun v=>absurd v (by decide))) (fun v=>absurd v (by decide))) (fun v=>absurd v (by decide))) (fun v=>absurd v (by decide))) (fun v=>absurd v (by decide))
  refine ⟨y0,[],B0.mono kB0,SL.nil,fun E10 k10=>⟨k10,?_⟩⟩
  rw [show heldF 3 s0 y0=(([],0),0) from S0.held]
  refine condC (fun _=>?_) (fun v=>absurd v (by decide))
  refine fun base E11 k11 wn=>⟨w1,[[3,1,0,70,5]],B1.mono (mt_ kB1 (mt_ k10 k11)),rr wn rfl (by unfold W5;decide) rfl,fun E12 k12=>?_⟩
  rw [show heldF 3 s0 w1=(([[3,1,0,70,5]],1),0) from S1.held]
  refine condC (fun _=>?_) (fun v=>absurd v (by decide))
  refine fun base E13 k13 wn=>⟨w2,[[3,1,0,70,5],[7,9,1,0,0]],B2.mono (mt_ kB2 (mt_ k10 (mt_ k11 (mt_ k12 k13)))),rr wn rfl (by unfold W5;decide) rfl,fun E14 k14=>?_⟩
  rw [show heldF 3 s0 w2=(([[3,1,0,70,5],[7,9,1,0,0]],1),0) from S2.held]
  refine condC (fun _=>?_) (fun v=>absurd v (by decide))
  have k15:Mem.le E9 E14:=mt_ k10 (mt_ k11 (mt_ k12 (mt_ k13 k14)))
  refine fun base E15 k16 wn=>⟨w3,[[7,9,1,0,0]],B3.mono (mt_ kB3 (mt_ k15 k16)),rr wn rfl (by unfold W5;decide) rfl,fun E16 k17=>⟨mt_ kAll (mt_ k15 (mt_ k16 k17)),?_⟩⟩
  rw [show heldF 3 s0 w3=(([[7,9,1,0,0]],1),0) from S3.held]
  exact h E16 (mt_ kAll (mt_ k15 (mt_ k16 k17)))
noncomputable def tabz54:FuncId->List SV->Mem->(SV->Mem->Prop)->Prop:=fun f args E K=>match f with
 | 54=>d1 args fun x0=>dI x0 fun a1=>okN a1/\(∀ (b':Option Addr) (l' c':Nat) (ys:List Int) (E':Mem),Mem.le E E'->Hyp (dig (zig a1)=ys)->Bs E' b' l' c' ys->K (L b' l' c') E')
 | 44=>d2 args fun x0 x1=>dS x0 fun b1 l2 c3=>dI x1 fun a4=>∃ (zs:List Int),Bs E b1 l2 c3 zs/\l2<=100000/\(∀ (n end' e:Int) (E':Mem),Mem.le E E'->Hyp (rd zs a4=(n,end',e))->K (.tup [I n,I end',I e]) E')
 | _=>False
theorem tabz54_ok:TabOK Tryz.prog tabz54:=by
 intro f args E K h
 unfold tabz54 at h
 split at h
 ·replace h:=d1_elim h
  obtain ⟨x0,rfl,h⟩:=h
  replace h:=dI_elim h
  obtain ⟨a1,rfl,h⟩:=h
  obtain ⟨g0,h⟩:=h
  exact TabSem.congr (valL_cons rfl rfl) (Ent.sem okW4 Tryz.func54 ⟨by kernel_rfl,by kernel_rfl⟩ rfl (s34 g0 h))
 ·replace h:=d2_elim h
  obtain ⟨x0,x1,rfl,h⟩:=h
  replace h:=dS_elim h
  obtain ⟨b1,l2,c3,rfl,h⟩:=h
  replace h:=dI_elim h
  obtain ⟨a4,rfl,h⟩:=h
  obtain ⟨zs,g0,g1,h⟩:=h
  exact TabSem.congr (valL_cons rfl (valL_cons rfl rfl)) (Ent.sem okWA Tryz.func44 ⟨by kernel_rfl,by kernel_rfl⟩ rfl (s16w g0 g1 h))
 ·exact h.elim
noncomputable def R1:Cx:={ P:=Tryz.prog,inl:=fun f=>List.contains [] f,tab:=tabz54,isB:=fun _=>false,tabB:=fun _ _ _ _ _=>False,opt:={ unroll:=0,carry:=[3,4] },muts:=mutsD }
theorem okR1:CxOK R1:=CxOK.four tabz54_ok (by kernel_rfl) (okInl (by kernel_rfl)) (fun _ _ _ _ _ h=>h.elim)
def vs33 (b1:Option Addr) (l2 c3:Nat) (n cap tot:Nat) (vs:List Value) (i:Nat) (E:Mem):St:=⟨[oL b1 l2 c3,none,none,os 0 0 n cap,oI (i:Nat)]++nn 14,[⟨5,.vals vs,tot,true⟩],E⟩
theorem vr33 {n cap:Nat} {ys:List Int} (h0:SL (RK .i64 1) E b1 l2 c3 (zs.map fun z=>[z])) (h1:l2<=100) (h2:∀ n∈zs,okN n) (hi:i<=l2) (hE:Mem.le E0 E) (hy:ys=encN (zs.take i)) (hn:ys.length=n/\n<=cap/\cap*1<=tot) (h:∀ (b':Option Addr) (l' c':Nat) (ys:List Int) (E':Mem),Mem.le E0 E'->Hyp (ys=encN zs)->Bs E' b' l' c' ys->K (L b' l' c') E')
  (ih:i<l2->∀ (n cap tot:Nat) (ys:List Int) (E':Mem),Mem.le E E'->ys=encN (zs.take (i+1))->ys.length=n/\n<=cap/\cap*1<=tot->Lp R1 8 Tryz.f33 [1,1,0,1,0] 0 (pubK E0 K) (vs33 b1 l2 c3 n cap tot (ys.map (.int .u8)) (i+1) E')):Rnd R1 8 Tryz.f33 [1,1,0,1,0] 0 (pubK E0 K) (vs33 b1 l2 c3 n cap tot (ys.map (.int .u8)) i E):=by
 refine sm_ (?_:bif decide ((NI i)<(NI l2)) then req (0<=(NI i)/\(NI i)<(NI l2)) (nE E b1 l2 c3/\∃ (n_1:Int),LoadE R1.P E 3 (VS b1 l2 c3) (Int.toNat (NI i)*1) (I n_1)/\okN n_1/\∀ (b':Option Addr) (l' c':Nat) (ys_1:List Int) (E':Mem),Mem.le E E'->Hyp (dig (zig n_1)=ys_1)->Bs E' b' l' c' ys_1->Mem.le E E'/\∃ (cs:List Value),(cs=[]\/E' (VS b' l' c') cs)/\l'*1<=List.length cs/\(∀ (x:Value),List.Mem x cs->Value.oneCell' x=true)/\n*1<=List.length (Row.cells (Row.vals (List.map (Value.int IntKind.u8) ys)))/\cap*1<=tot/\n<=cap/\req ((n+l')*1<=140737488355328) (∀ (cap' tot':Nat),n+l'<=cap'->cap'*1<=tot'->Lp R1 8 Tryz.f33 [1,1,0,1,0] 0 (pubK E0 K) { fr:=some (L b1 l2 c3)::none::none::os 1 0 (n+l') cap'::oI (WI ((NI i)+1))::no8 (no4 (no2 [])),bx:=[(⟨5,.lst [],0,false⟩:Box),⟨5,.vals (List.take (n*1) (List.map (Value.int IntKind.u8) ys)++List.take (l'*1) cs),tot',true⟩],E:=E':St })) else ∀ (base:Option Addr) (E':Mem),Mem.le E E'->WinE E' base (List.map (Value.int IntKind.u8) ys)->Mem.le E0 E'/\K (L (Option.map (fun (x:Addr)=>Addr.add x 0) base) n cap) E')
 delta WI NI VS no2 no4 no8
 have hl:zs.length=l2:=by have:=h0.len;simpa using this
 refine condC (fun g=>?_) (fun g=>?_)
 ·have g:i<l2:=by simpa using g
  obtain ⟨x,hx⟩:∃ x,zs[i]? =some x:=⟨_,List.getElem?_eq_getElem (by omega)⟩
  have ld:=RK_load (by decide) (T:=3) (k:=1) rfl h0 (x:=[x]) (i:=i) (by simp [hx]) 0 (by decide)
  have ox:=h2 x (List.mem_of_getElem? hx)
  have dl:=dig_len (zig x)
  have el:=(encN_len (zs.take i) (fun n hn=>h2 n (List.take_subset _ _ hn))).2
  rw [← hy,List.length_take] at el
  rw [Int.toNat_natCast,wrap_i64 (x:=(i:Int)+1) (by omega)]
  refine req_intro (by omega) ⟨SL.ne (RK_ok .i64 (by decide)) h0 g,x,ld,ox,fun b' l' c' y2 E1 k1 q1 q2=>⟨k1,_,q2.src.1,q2.src.2.1,q2.src.2.2,?_,hn.2.2,hn.2.1,req_intro (by have:=q2.2.1;rw [← show dig (zig x)=y2 from q1] at this;omega) fun cap' tot' r1 r2=>?_⟩⟩
  ·show n*1<=((ys.map (Value.int .u8)).map SV.raw).length
   simp;omega
  ·have e:List.take (n*1) (ys.map (Value.int .u8))++List.take (l'*1) (y2.map (Value.int .u8))=(ys++y2).map (Value.int .u8):=by
    have:=q2.2.1
    rw [List.take_of_length_le (by simp;omega),List.take_of_length_le (by simp;omega),List.map_append]
   rw [e]
   exact Lp_re [some 1] (ih g (n+l') cap' tot' (ys++y2) E1 k1 (by rw [take_get' hx,hy,← show dig (zig x)=y2 from q1];unfold encN;simp) ⟨by have:=q2.2.1;simp;omega,r1,r2⟩) (wkG mr_)
 ·have g:¬ i<l2:=by simpa using g
  rw [List.take_of_length_le (by omega)] at hy
  refine fun base E1 k1 w=>⟨mt_ hE k1,h _ n cap ys E1 (mt_ hE k1) hy (Bs.win w rfl hn.1 hn.2.1 ?_)⟩
  rw [hy];exact encN_byte h2
theorem vl33 {E:Mem} {b1:Option Addr} {l2 c3 n cap tot:Nat} {zs ys:List Int} {E0:Mem} (h0:SL (RK .i64 1) E b1 l2 c3 (zs.map fun z=>[z])) (h1:l2<=100) (h2:∀ n∈zs,okN n) (hE:Mem.le E0 E) (h:∀ (b':Option Addr) (l' c':Nat) (ys:List Int) (E':Mem),Mem.le E0 E'->Hyp (ys=encN zs)->Bs E' b' l' c' ys->K (L b' l' c') E'):∀ {r i:Nat},i+r=l2->ys=encN (zs.take i)->ys.length=n/\n<=cap/\cap*1<=tot->Lp R1 8 Tryz.f33 [1,1,0,1,0] 0 (pubK E0 K) (vs33 b1 l2 c3 n cap tot (ys.map (.int .u8)) i E)
 | 0,i,hi,hy,hn=>Lp_ind (ι:=Unit) okR1 (fun _=>vs33 b1 l2 c3 n cap tot (ys.map (.int .u8)) i E) (fun _=>0) (fun _ _=>vr33 h0 h1 h2 (by omega) hE hy hn h (fun g=>by omega)) ()
 | r+1,i,hi,hy,hn=>Lp_ind (ι:=Unit) okR1 (fun _=>vs33 b1 l2 c3 n cap tot (ys.map (.int .u8)) i E) (fun _=>0) (fun _ _=>vr33 h0 h1 h2 (by omega) hE hy hn h (fun g n cap tot ys E1 k hy hn=>vl33 (h0.mono (RK_ok .i64 (by decide)) k) h1 h2 (mt_ hE k) h (r:=r) (i:=i+1) (by omega) hy hn)) ()
theorem zr33 (h0:SL (RK .i64 1) E b1 l2 c3 (zs.map fun z=>[z])) (h1:l2<=100) (h2:(∀ n∈zs,okN n)) (h:∀ (b':Option Addr) (l' c':Nat) (ys:List Int) (E':Mem),Mem.le E E'->Hyp (ys=recB zs)->Bs E' b' l' c' ys->K (L b' l' c') E'):
  Ent R1 8 Tryz.f33 [L b1 l2 c3] E K:=by
 refine sm_ (?_:Lp R1 8 Tryz.f33 [1,1,0,1,0] 0 (pubK E K) { fr:=some (L b1 l2 c3)::none::oL none 0 0::oL none 0 0::oI 0::no8 (no4 (no2 [])),bx:=[],E:=E:St })
 delta no2 no4 no8
 have h:∀ (b':Option Addr) (l' c':Nat) (ys:List Int) (E':Mem),Mem.le E E'->Hyp (ys=encN zs)->Bs E' b' l' c' ys->K (L b' l' c') E':=fun b' l' c' ys E' k q hB=>h b' l' c' ys E' k (by show ys=recB zs;rw [recB_enc h2];exact q) hB
 exact Lp_re [none] (vl33 (ys:=[]) (n:=0) (cap:=0) (tot:=0) h0 h1 h2 mr_ h (r:=l2) (i:=0) (by omega) rfl ⟨rfl,Nat.le_refl _,Nat.le_refl _⟩) (wkG mr_)
noncomputable def tabz33:FuncId->List SV->Mem->(SV->Mem->Prop)->Prop:=fun f args E K=>match f with
 | 33=>d1 args fun x0=>dS x0 fun b1 l2 c3=>∃ (zs:List Int),SL (RK .i64 1) E b1 l2 c3 (zs.map fun z=>[z])/\l2<=100/\(∀ n∈zs,okN n)/\(∀ (b':Option Addr) (l' c':Nat) (ys:List Int) (E':Mem),Mem.le E E'->Hyp (ys=recB zs)->Bs E' b' l' c' ys->K (L b' l' c') E')
 | _=>False
theorem tabz33_ok:TabOK Tryz.prog tabz33:=by
 intro f args E K h
 unfold tabz33 at h
 split at h
 ·replace h:=d1_elim h
  obtain ⟨x0,rfl,h⟩:=h
  replace h:=dS_elim h
  obtain ⟨b1,l2,c3,rfl,h⟩:=h
  obtain ⟨zs,g0,g1,g2,h⟩:=h
  exact TabSem.congr (valL_cons rfl rfl) (Ent.sem okR1 Tryz.func33 ⟨by kernel_rfl,by kernel_rfl⟩ rfl (zr33 g0 g1 g2 h))
 ·exact h.elim
noncomputable def R2:Cx:={ P:=Tryz.prog,inl:=fun f=>List.contains [] f,tab:=tabz33,isB:=fun _=>false,tabB:=fun _ _ _ _ _=>False,opt:={ unroll:=0,carry:=[] },muts:=mutsD }
theorem okR2:CxOK R2:=CxOK.four tabz33_ok (by kernel_rfl) (okInl (by kernel_rfl)) (fun _ _ _ _ _ h=>h.elim)
theorem zr28 {a2:Int} {a3:Int} {a4:Int} (h0:(∀ m∈[1,a1,a2,a3,a4,a5],okN m)) (h:∀ (b':Option Addr) (l' c':Nat) (ys:List Int) (E':Mem),Mem.le E E'->Hyp (ys=recB [1,a1,a2,a3,a4,a5])->Bs E' b' l' c' ys->K (L b' l' c') E'):
  Ent R2 8 Tryz.f28 [.agg [I a1,I a2,I a3,I a4,I a5]] E K:=by
 refine sm_ (?_:∀ (base:Option Addr) (E':Mem),Mem.le E E'->WinE E' base [Value.int IntKind.i64 (1:Int),Value.int IntKind.i64 a1,Value.int IntKind.i64 a2,Value.int IntKind.i64 a3,Value.int IntKind.i64 a4,Value.int IntKind.i64 a5]->∃ (zs:List Int),SL (RK IntKind.i64 1) E' (Option.map (fun (x:Addr)=>Addr.add x 0) base) 6 6 (List.map (fun (z:Int)=>[z]) zs)/\6<=100/\(∀ (n:Int),List.Mem n zs->okN n)/\∀ (b':Option Addr) (l' c':Nat) (ys:List Int) (E'_1:Mem),Mem.le E' E'_1->Hyp (ys=recB zs)->Bs E'_1 b' l' c' ys->Mem.le E E'_1/\K (L b' l' c') E'_1)
 refine fun base E' k w=>⟨[1,a1,a2,a3,a4,a5],SL.win (RK_ok .i64 (by decide)) w (rs:=([1,a1,a2,a3,a4,a5].map fun z=>[z]).map fun x=>x.map (Value.int .i64)) rfl (SLr_RK (fun x hx=>by obtain ⟨z,_,rfl⟩:=List.mem_map.1 hx;rfl)) rfl (Nat.le_refl _),by decide,h0,fun b' l' c' ys E2 k2 q hB=>⟨mt_ k k2,h b' l' c' ys E2 (mt_ k k2) q hB⟩⟩
noncomputable def R3:Cx:={ P:=Tryz.prog,inl:=fun f=>List.contains [] f,tab:=tabz54,isB:=fun _=>false,tabB:=fun _ _ _ _ _=>False,opt:={ unroll:=0,carry:=[4,5] },muts:=mutsD }
theorem okR3:CxOK R3:=CxOK.four tabz54_ok (by kernel_rfl) (okInl (by kernel_rfl)) (fun _ _ _ _ _ h=>h.elim)
def vs19 (b1:Option Addr) (l2 c3:Nat) (n cap tot:Nat) (vs:List Value) (a:Int) (E:Mem):St:=⟨[oL b1 l2 c3,none,none,none,os 0 0 n cap,oI a]++nn 22,[⟨3,.vals vs,tot,true⟩],E⟩
theorem vr19 {n cap:Nat} {xs:List Int} (hB:Bs E0 b1 l2 c3 zs) (hl:l2<=100000) (hE:Mem.le E0 E) (hn:xs.length=n) (hc:n<=cap/\cap*1<=tot) (ha:(n:Int)<=a/\a<=l2)
  {f:Nat} (hf:(l2:Int)<a+f) (hq:numsF zs=(numsN zs f a).map fun l=>xs++l) (h:(∀ E':Mem,Mem.le E0 E'->Hyp (numsF zs=none)->K (.tup [L none 0 0,B false]) E')/\∀ (xs:List Int) (b':Option Addr) (l' c':Nat) (E':Mem),Mem.le E0 E'->Hyp (numsF zs=some xs)->SL (RK .i64 1) E' b' l' c' (xs.map fun z=>[z])->K (.tup [L b' l' c',B true]) E')
  (ih:∀ (x a':Int) (cap' tot':Nat) (E':Mem),Mem.le E E'->n+1<=cap'->cap'*1<=tot'->a<a'->a'<=l2->numsF zs=(numsN zs (f-1) a').map (fun l=>(xs++[x])++l)->Lp R3 8 Tryz.f19 [1,1,1,0,0] 0 (pubK E0 K) (vs19 b1 l2 c3 (n+1) cap' tot' ((xs++[x]).map (.int .i64)) a' E')):
  Rnd R3 8 Tryz.f19 [1,1,1,0,0] 0 (pubK E0 K) (vs19 b1 l2 c3 n cap tot (xs.map (.int .i64)) a E):=by
 refine sm_ (?_:bif decide (a<(NI l2)) then ∃ (zs:List Int),Bs E b1 l2 c3 zs/\l2<=100000/\∀ (n_1 end' e:Int) (E':Mem),Mem.le E E'->Hyp (rd zs a=(n_1,end',e))->Mem.le E E'/\bif e !=(0:Int) then Mem.le E0 E'/\K (SV.tup [L none 0 0,B false]) E' else n*1<=List.length (Row.cells (Row.vals (List.map (Value.int IntKind.i64) xs)))/\cap*1<=tot/\n<=cap/\req ((n+1)*8<=140737488355328) (∀ (cap' tot':Nat),n+1<=cap'->cap'*1<=tot'->Lp R3 8 Tryz.f19 [1,1,1,0,0] 0 (pubK E0 K) { fr:=some (L b1 l2 c3)::none::none::none::os 2 0 (n+1) cap'::oI end'::no16 (no4 (no2 [])),bx:=[(⟨3,.lst [],0,false⟩:Box),⟨3,.lst [I n_1],1,true⟩,⟨3,.vals (List.take (n*1) (List.map (Value.int IntKind.i64) xs)++[Value.int IntKind.i64 n_1]),tot',true⟩],E:=E':St }) else ∀ (base:Option Addr) (E':Mem),Mem.le E E'->WinE E' base (List.map (Value.int IntKind.i64) xs)->Mem.le E0 E'/\K (SV.tup [L (Option.map (fun (x:Addr)=>Addr.add x 0) base) n cap,B true]) E')
 delta NI no2 no4 no16
 have hz:=hB.2.1
 obtain ⟨f,rfl⟩:∃ f',f=f'+1:=⟨f-1,by omega⟩
 have st:numsN zs (f+1) a=if a<zs.length then (if (rd zs a).2.2=0 then (numsN zs f (rd zs a).2.1).map fun l=>(rd zs a).1::l else none) else some []:=rfl
 refine condC (fun g=>?_) (fun g=>?_)
 ·have g:a<l2:=by simpa using g
  rw [if_pos (by omega)] at st
  refine ⟨zs,hB.mono hE,hl,fun x a' e E' q1 q2=>⟨q1,?_⟩⟩
  have q2:rd zs a=(x,a',e):=q2
  rw [q2] at st
  refine condC (fun ge=>?_) (fun ge=>?_)
  ·have ge:e≠0:=by simpa using ge
   exact ⟨mt_ hE q1,h.1 E' (mt_ hE q1) (by show numsF zs=none;rw [hq,st,if_neg ge];rfl)⟩
  have ge:e=0:=by simpa using ge
  subst ge
  obtain ⟨_,_,o1,o2,_⟩:=rd_ok q2
  refine ⟨by show n*1<=((xs.map (Value.int .i64)).map SV.raw).length;simp [hn],hc.2,hc.1,req_intro (by omega) fun cap' tot' g1 g2=>?_⟩
  have e1:List.take (n*1) (xs.map (Value.int .i64))++[Value.int .i64 x]=(xs++[x]).map (.int .i64):=by rw [List.take_of_length_le (by simp;omega),List.map_append];rfl
  rw [e1]
  exact Lp_re [some 2] (ih x a' cap' tot' E' q1 g1 g2 o1 (by omega) (by rw [hq,st,if_pos rfl,Option.map_map];congr 1;funext l;simp)) (wkG mr_)
 ·have g:¬ a<l2:=by simpa using g
  rw [if_neg (by omega)] at st
  exact fun base E' k w=>⟨mt_ hE k,h.2 xs _ _ _ E' (mt_ hE k) (by show numsF zs=some xs;rw [hq,st];simp) (SL.win (RK_ok .i64 (by decide)) w (rs:=(xs.map fun z=>[z]).map fun x=>x.map (Value.int .i64)) (flatI xs) (SLr_RK (fun x hx=>by obtain ⟨z,_,rfl⟩:=List.mem_map.1 hx;rfl)) (by simp [hn]) hc.1)⟩
theorem zr19 (h0:Bs E b1 l2 c3 zs) (h1:l2<=100000) (h:(∀ E':Mem,Mem.le E E'->Hyp (numsF zs=none)->K (.tup [L none 0 0,B false]) E')/\∀ (xs:List Int) (b':Option Addr) (l' c':Nat) (E':Mem),Mem.le E E'->Hyp (numsF zs=some xs)->SL (RK .i64 1) E' b' l' c' (xs.map fun z=>[z])->K (.tup [L b' l' c',B true]) E'):
  Ent R3 8 Tryz.f19 [L b1 l2 c3] E K:=by
 refine sm_ (?_:Lp R3 8 Tryz.f19 [1,1,1,0,0] 0 (pubK E K) { fr:=some (L b1 l2 c3)::none::none::none::oL none 0 0::oI 0::no16 (no4 (no2 [])),bx:=[],E:=E:St })
 delta no2 no4 no16
 have hz:=h0.2.1
 have key:=Lp_ind okR3 (n:=8) (fn:=Tryz.f19) (p:=[1,1,1,0,0]) (n0:=0) (K:=pubK E K) (fun x:{x:Nat×Nat×Nat×Int×List Int×Mem×Nat//Mem.le E x.2.2.2.2.2.1/\x.2.2.2.2.1.length=x.1/\(x.1<=x.2.1/\x.2.1*1<=x.2.2.1)/\((x.1:Int)<=x.2.2.2.1/\x.2.2.2.1<=l2)/\(l2:Int)<x.2.2.2.1+x.2.2.2.2.2.2/\numsF zs=(numsN zs x.2.2.2.2.2.2 x.2.2.2.1).map fun l=>x.2.2.2.2.1++l}=>vs19 b1 l2 c3 x.1.1 x.1.2.1 x.1.2.2.1 (x.1.2.2.2.2.1.map (.int .i64)) x.1.2.2.2.1 x.1.2.2.2.2.2.1) (fun x=>l2-x.1.2.2.2.1.toNat) (by
  rintro ⟨⟨n,cap,tot,a,xs,E1,f⟩,g1,g2,g3,g4,g5,g6⟩ ih
  have g4:(n:Int)<=a/\a<=l2:=g4
  have g5:(l2:Int)<a+f:=g5
  refine vr19 h0 h1 g1 g2 g3 g4 g5 g6 h (fun x a' cap' tot' E' q1 q2 q3 (q4:a<a') q5 q6=>ih ⟨⟨n+1,cap',tot',a',xs++[x],E',f-1⟩,mt_ g1 q1,?_,⟨q2,q3⟩,⟨?_,q5⟩,?_,q6⟩ ?_)
  ·show (xs++[x]).length=n+1
   have g2:xs.length=n:=g2
   simp [g2]
  ·show ((n+1:Nat):Int)<=a'
   omega
  ·show (l2:Int)<a'+(f-1:Nat)
   omega
  ·show l2-a'.toNat<l2-a.toNat
   omega)
 exact Lp_re [none] (key ⟨⟨0,0,0,0,[],E,zs.length+1⟩,mr_,rfl,⟨Nat.le_refl _,Nat.le_refl _⟩,⟨by show ((0:Nat):Int)<=0;omega,by show (0:Int)<=l2;omega⟩,by show (l2:Int)<0+(zs.length+1:Nat);omega,by show numsF zs=_;unfold numsF;simp⟩) (wkG mr_)
noncomputable def tabz30:FuncId->List SV->Mem->(SV->Mem->Prop)->Prop:=fun f args E K=>match f with
 | 33=>d1 args fun x0=>dS x0 fun b1 l2 c3=>∃ (zs:List Int),SL (RK .i64 1) E b1 l2 c3 (zs.map fun z=>[z])/\l2<=100/\(∀ n∈zs,okN n)/\(∀ (b':Option Addr) (l' c':Nat) (ys:List Int) (E':Mem),Mem.le E E'->Hyp (ys=recB zs)->Bs E' b' l' c' ys->K (L b' l' c') E')
 | 28=>d1 args fun x0=>dC x0 fun l1=>d5 l1 fun x0_0 x0_1 x0_2 x0_3 x0_4=>dI x0_0 fun a1=>dI x0_1 fun a2=>dI x0_2 fun a3=>dI x0_3 fun a4=>dI x0_4 fun a5=>(∀ m∈[1,a1,a2,a3,a4,a5],okN m)/\(∀ (b':Option Addr) (l' c':Nat) (ys:List Int) (E':Mem),Mem.le E E'->Hyp (ys=recB [1,a1,a2,a3,a4,a5])->Bs E' b' l' c' ys->K (L b' l' c') E')
 | _=>False
theorem tabz30_ok:TabOK Tryz.prog tabz30:=by
 intro f args E K h
 unfold tabz30 at h
 split at h
 ·replace h:=d1_elim h
  obtain ⟨x0,rfl,h⟩:=h
  replace h:=dS_elim h
  obtain ⟨b1,l2,c3,rfl,h⟩:=h
  obtain ⟨zs,g0,g1,g2,h⟩:=h
  exact TabSem.congr (valL_cons rfl rfl) (Ent.sem okR1 Tryz.func33 ⟨by kernel_rfl,by kernel_rfl⟩ rfl (zr33 g0 g1 g2 h))
 ·replace h:=d1_elim h
  obtain ⟨x0,rfl,h⟩:=h
  replace h:=dC_elim h
  obtain ⟨l1,hl1,h⟩:=h
  replace h:=d5_elim h
  obtain ⟨x0_0,x0_1,x0_2,x0_3,x0_4,rfl,h⟩:=h
  replace h:=dI_elim h
  obtain ⟨a1,rfl,h⟩:=h
  replace h:=dI_elim h
  obtain ⟨a2,rfl,h⟩:=h
  replace h:=dI_elim h
  obtain ⟨a3,rfl,h⟩:=h
  replace h:=dI_elim h
  obtain ⟨a4,rfl,h⟩:=h
  replace h:=dI_elim h
  obtain ⟨a5,rfl,h⟩:=h
  obtain ⟨g0,h⟩:=h
  exact TabSem.congr (valL_cons (asCells_val hl1) rfl) (Ent.sem okR2 Tryz.func28 ⟨by kernel_rfl,by kernel_rfl⟩ rfl (zr28 g0 h))
 ·exact h.elim
noncomputable def R6:Cx:={ P:=Tryz.prog,inl:=fun f=>List.contains [] f,tab:=tabz30,isB:=fun _=>false,tabB:=fun _ _ _ _ _=>False,opt:={ unroll:=0,carry:=[5,6],cuts:=[4] },muts:=(fun o=>match o with | .buildSlice .. =>true|o=>mutsD o) }
theorem okR6:CxOK R6:=CxOK.four tabz30_ok (by kernel_rfl) (okInl (by kernel_rfl)) (fun _ _ _ _ _ h=>h.elim)
def vc30 (b:Option Addr) (l c n cap tot:Nat) (cn:Int) (rs:List Value) (E:Mem):St:=⟨[oL b l c,oI cn,none,none,none,os 0 0 n cap]++nn 24,[⟨22,.vals rs,tot,true⟩],E⟩
def vs30 (b:Option Addr) (l c n cap tot:Nat) (rs:List Value) (i:Nat) (E:Mem):St:=⟨[oL b l c]++nn 4++[os 0 0 n cap,oI (i:Nat)]++nn 23,[⟨22,.vals rs,tot,true⟩],E⟩
theorem vr30 {n cap:Nat} (h0:SL (RK .i64 5) E b l c xs) (h1:l<=20) (h2:∀ x∈xs,∀ m∈x,okN m) (hR:SLr RB E rr ds) (hrs:rs=rr.flatten) (hn:ds.length=n/\n<=cap/\cap*1<=tot) (hE:Mem.le E0 E) (h:∀ (b':Option Addr) (l' c':Nat) (ds:List (List Int)) (E':Mem),Mem.le E0 E'->Hyp (ds=full)->BL E' b' l' c' ds->K (L b' l' c') E') (hi:i<=l) (hni:n<=i+1) (hf:full=ds++(xs.drop i).map fun r=>recB (1::r))
  (ih:i<l->∀ (n cap tot:Nat) (ds:List (List Int)) (rs:List Value) (rr:List (List Value)) (E':Mem),Mem.le E E'->SLr RB E' rr ds->rs=rr.flatten->(ds.length=n/\n<=cap/\cap*1<=tot)->n<=i+2->full=ds++(xs.drop (i+1)).map (fun r=>recB (1::r))->Lp R6 8 Tryz.f30 [1,1,1,0,1,0] 0 (pubK E0 K) (vs30 b l c n cap tot rs (i+1) E')):Rnd R6 8 Tryz.f30 [1,1,1,0,1,0] 0 (pubK E0 K) (vs30 b l c n cap tot rs i E):=by
 refine sm_ (?_:bif decide ((NI i)<(NI l)) then req (0<=(NI i)/\(NI i)<(NI l)) (nE E b l c/\∃ (n_1:Int),∃ (n_2:Int),∃ (n_3:Int),∃ (n_4:Int),∃ (n_5:Int),LoadE R6.P E 26 (VS b l c) (Int.toNat (NI i)*5) (SV.agg [I n_1,I n_2,I n_3,I n_4,I n_5])/\(∀ (m:Int),List.Mem m [(1:Int),n_1,n_2,n_3,n_4,n_5]->okN m)/\∀ (b':Option Addr) (l' c':Nat) (ys:List Int) (E':Mem),Mem.le E E'->Hyp (ys=recB [(1:Int),n_1,n_2,n_3,n_4,n_5])->Bs E' b' l' c' ys->Mem.le E E'/\n*1<=List.length (Row.cells (Row.vals rs))/\cap*1<=tot/\n<=cap/\req ((n+1)*24<=140737488355328) (∀ (cap' tot':Nat),n+1<=cap'->cap'*1<=tot'->Lp R6 8 Tryz.f30 [1,1,1,0,1,0] 0 (pubK E0 K) { fr:=some (L b l c)::none::none::none::none::os 2 0 (n+1) cap'::oI (WI ((NI i)+1))::no16 (no4 (no2 (none::[]))),bx:=[(⟨22,.lst [],0,false⟩:Box),⟨22,.lst [L b' l' c'],1,true⟩,⟨22,.vals (List.take (n*1) rs++[VS b' l' c']),tot',true⟩],E:=E':St })) else ∀ (base:Option Addr) (E':Mem),Mem.le E E'->WinE E' base rs->Mem.le E0 E'/\K (L (Option.map (fun (x:Addr)=>Addr.add x 0) base) n cap) E')
 delta WI NI VS no2 no4 no16
 have hw:=hR.flat RB_ok
 have nl:=h0.len
 refine condC (fun g=>?_) (fun g=>?_)
 ·have g:i<l:=by simpa using g
  obtain ⟨x,hx⟩:∃ x,xs[i]? =some x:=⟨_,List.getElem?_eq_getElem (by omega)⟩
  obtain ⟨o1,o2,o3,o4,o5,ex,l5⟩:=rowK5 (T:=26) h0 rfl rfl hx
  have ok:=h2 x (List.mem_of_getElem? hx)
  rw [ex] at ok
  rw [Int.toNat_natCast,wrap_i64 (x:=(i:Int)+1) (by omega)]
  refine req_intro (by omega) ⟨SL.ne (RK_ok .i64 (by decide)) h0 g,o1,o2,o3,o4,o5,l5,fun m hm=>?_,fun b' l' c' ys E1 k1 q1 q2=>⟨k1,?_,hn.2.2,hn.2.1,req_intro (by omega) fun cap' tot' r1 r2=>?_⟩⟩
  ·rcases List.mem_cons.1 hm with rfl|hm
   ·unfold okN;omega
   ·exact ok m hm
  ·show n*1<=(rs.map SV.raw).length
   rw [List.length_map,hrs,hw];omega
  ·have q1:ys=recB (1::x):=by rw [ex];exact q1
   have fx:full=(ds++[ys])++(xs.drop (i+1)).map fun r=>recB (1::r):=by
    obtain ⟨hi',ei⟩:=List.getElem?_eq_some_iff.1 hx
    rw [hf,List.drop_eq_getElem_cons hi',ei,q1];simp
   have fr:List.take (n*1) rs++[Value.slice b' l' c']=(rr++[[Value.slice b' l' c']]).flatten:=by
    rw [List.take_of_length_le (by rw [hrs,hw];omega),hrs];simp
   exact Lp_re [some 2] (ih g (n+1) cap' tot' (ds++[ys]) _ (rr++[[.slice b' l' c']]) E1 k1 ((hR.mono RB_ok k1).snoc ⟨_,_,_,rfl,q2⟩) fr ⟨by simp [hn.1],r1,r2⟩ (by omega) fx) (wkG mr_)
 ·have g:¬ i<l:=by simpa using g
  have e:full=ds:=by rw [hf,List.drop_of_length_le (by omega)];simp
  exact fun base E1 k1 w=>⟨mt_ hE k1,h _ n cap ds E1 (mt_ hE k1) e.symm (SL.win RB_ok w hrs (hR.mono RB_ok k1) hn.1 hn.2.1)⟩
theorem vl30 {E:Mem} {b:Option Addr} {l c n cap tot:Nat} {xs ds full:List (List Int)} {rs:List Value} {rr:List (List Value)} {E0:Mem} (h0:SL (RK .i64 5) E b l c xs) (h1:l<=20) (h2:∀ x∈xs,∀ m∈x,okN m) (hR:SLr RB E rr ds) (hrs:rs=rr.flatten) (hn:ds.length=n/\n<=cap/\cap*1<=tot) (hE:Mem.le E0 E) (h:∀ (b':Option Addr) (l' c':Nat) (ds:List (List Int)) (E':Mem),Mem.le E0 E'->Hyp (ds=full)->BL E' b' l' c' ds->K (L b' l' c') E'):∀ {r i:Nat},i+r=l->n<=i+1->full=ds++((xs.drop i).map fun r=>recB (1::r))->Lp R6 8 Tryz.f30 [1,1,1,0,1,0] 0 (pubK E0 K) (vs30 b l c n cap tot rs i E)
 | 0,i,hi,hni,hf=>Lp_ind (ι:=Unit) okR6 (fun _=>vs30 b l c n cap tot rs i E) (fun _=>0) (fun _ _=>vr30 h0 h1 h2 hR hrs hn hE h (by omega) hni hf (fun g=>by omega)) ()
 | r+1,i,hi,hni,hf=>Lp_ind (ι:=Unit) okR6 (fun _=>vs30 b l c n cap tot rs i E) (fun _=>0) (fun _ _=>vr30 h0 h1 h2 hR hrs hn hE h (by omega) hni hf (fun g n cap tot ds rs rr E1 k hR hrs hn hni hf=>vl30 (h0.mono (RK_ok .i64 (by decide)) k) h1 h2 hR hrs hn (mt_ hE k) h (r:=r) (i:=i+1) (by omega) hni hf)) ()
theorem vp30 {n cap:Nat} {cn:Int} (h0:SL (RK .i64 5) E b l c xs) (h1:l<=20) (h2:∀ x∈xs,∀ m∈x,okN m) (hR:SLr RB E rr ds) (hrs:rs=rr.flatten) (hn:ds.length=n/\n<=cap/\cap*1<=tot) (hE:Mem.le E0 E) (h:∀ (b':Option Addr) (l' c':Nat) (ds:List (List Int)) (E':Mem),Mem.le E0 E'->Hyp (ds=full)->BL E' b' l' c' ds->K (L b' l' c') E') (hni:n<=1) (hf:full=ds++xs.map fun r=>recB (1::r)):Pc R6 8 Tryz.f30 [1,1,1] 0 (pubK E0 K) (vc30 b l c n cap tot cn rs E):=by
 refine sm_ (?_:Lp R6 8 Tryz.f30 [1,1,1,0,1,0] 0 (pubK E0 K) { fr:=some (L b l c)::oI cn::none::none::none::os 0 0 n cap::oI 0::no16 (no4 (no2 (none::[]))),bx:=[(⟨22,.vals rs,tot,true⟩:Box)],E:=E:St })
 delta no2 no4 no16
 exact Lp_re [some 0] (vl30 h0 h1 h2 hR hrs hn hE h (r:=l) (i:=0) (by omega) hni (by simpa using hf)) (wkG mr_)
theorem zr30 {a4:Int} (h0:SL (RK .i64 5) E b1 l2 c3 xs) (h1:l2<=20) (h2:(∀ x∈xs,∀ m∈x,okN m)) (h3:okN a4) (h:∀ (b':Option Addr) (l' c':Nat) (ds:List (List Int)) (E':Mem),Mem.le E E'->Hyp (ds=keepF (xs,a4))->BL E' b' l' c' ds->K (L b' l' c') E'):
  Ent R6 8 Tryz.f30 [L b1 l2 c3,I a4] E K:=by
 refine sm_ (?_:bif decide (a4>(0:Int)) then ∀ (base:Option Addr) (E':Mem),Mem.le E E'->WinE E' base [Value.int IntKind.i64 3,Value.int IntKind.i64 a4]->∃ (zs:List Int),SL (RK IntKind.i64 1) E' (Option.map (fun (x:Addr)=>Addr.add x 0) base) 2 2 (List.map (fun (z:Int)=>[z]) zs)/\2<=100/\(∀ (n:Int),List.Mem n zs->okN n)/\∀ (b':Option Addr) (l' c':Nat) (ys:List Int) (E'_1:Mem),Mem.le E' E'_1->Hyp (ys=recB zs)->Bs E'_1 b' l' c' ys->∀ (cap' tot':Nat),1<=cap'->cap'*1<=tot'->Ct R6 8 Tryz.f30 [1,1,1] 0 (pubK E K) { fr:=some (L b1 l2 c3)::oI a4::none::none::oL none 0 0::os 2 0 1 cap'::none::oI a4::oB (decide (a4>(0:Int)))::oL none 0 0::oI a4::os 0 0 2 2::oL b' l' c'::os 1 0 1 1::os 2 0 1 cap'::no8 (no4 (no2 (none::[]))),bx:=[(⟨3,.lst [I 3,I a4],2,false⟩:Box),⟨22,.lst [L b' l' c'],1,true⟩,⟨22,.lst [L b' l' c'],tot',true⟩],E:=E'_1:St } else Ct R6 8 Tryz.f30 [1,1,1] 0 (pubK E K) { fr:=some (L b1 l2 c3)::oI a4::none::none::oL none 0 0::oL none 0 0::none::oI a4::oB (decide (a4>(0:Int)))::no16 (no4 (none::[])),bx:=[],E:=E:St })
 delta no2 no4 no8 no16
 have k0:0<a4->keepF (xs,a4)=[recB [3,a4]]++xs.map fun r=>recB (1::r):=fun q=>by unfold keepF;rw [if_pos q]
 have k1:¬ 0<a4->keepF (xs,a4)=[]++xs.map fun r=>recB (1::r):=fun q=>by unfold keepF;rw [if_neg q]
 refine condC (fun g=>?_) (fun g=>?_)
 ·have g:0<a4:=by simpa using g
  refine fun base E1 k1' w=>⟨[3,a4],SL.win (RK_ok .i64 (by decide)) w (rs:=([3,a4].map fun z=>[z]).map fun x=>x.map (Value.int .i64)) rfl (SLr_RK (fun x hx=>by obtain ⟨z,_,rfl⟩:=List.mem_map.1 hx;rfl)) rfl (Nat.le_refl _),by decide,fun m hm=>?_,fun b' l' c' ys E2 k2 q1 q2 cap' tot' r1 r2=>?_⟩
  ·rcases List.mem_cons.1 hm with rfl|hm
   ·unfold okN;omega
   ·rcases List.mem_cons.1 hm with rfl|hm
    ·exact h3
    ·cases hm
  ·exact Ct_re [some 2] (Ct_intro okR6 (vp30 (rr:=[[_]]) (ds:=[ys]) (full:=keepF (xs,a4)) (h0.mono (RK_ok .i64 (by decide)) (mt_ k1' k2)) h1 h2 (SLr.nil.snoc ⟨_,_,_,rfl,q2⟩) rfl ⟨rfl,r1,r2⟩ (mt_ k1' k2) h (Nat.le_refl _) (by rw [k0 g,show ys=recB [3,a4] from q1]))) (wkG mr_)
 ·have g:¬ 0<a4:=by simpa using g
  exact Ct_re [none] (Ct_intro okR6 (vp30 (rr:=[]) (ds:=[]) (rs:=[]) (n:=0) (cap:=0) (tot:=0) (full:=keepF (xs,a4)) h0 h1 h2 SLr.nil rfl ⟨rfl,Nat.le_refl _,Nat.le_refl _⟩ mr_ h (by decide) (k1 g))) (wkG mr_)
noncomputable def R4:Cx:={ P:=Tryz.prog,inl:=fun f=>List.contains [] f,tab:=fun _ _ _ _=>False,isB:=fun _=>false,tabB:=fun _ _ _ _ _=>False,opt:={ unroll:=0,carry:=[7] },muts:=mutsD }
theorem okR4:CxOK R4:=CxOK.four (fun _ _ _ _ h=>h.elim) (by kernel_rfl) (okInl (by kernel_rfl)) (fun _ _ _ _ _ h=>h.elim)
noncomputable def R5:Cx:={ P:=Tryz.prog,inl:=fun f=>List.contains [] f,tab:=fun _ _ _ _=>False,isB:=fun _=>false,tabB:=fun _ _ _ _ _=>False,opt:={ unroll:=0,carry:=[7,8] },muts:=mutsD }
theorem okR5:CxOK R5:=CxOK.four (fun _ _ _ _ h=>h.elim) (by kernel_rfl) (okInl (by kernel_rfl)) (fun _ _ _ _ _ h=>h.elim)
theorem row_V (h:W5 xs) (hx:xs[i]? =some x) (js:List Value):((vR xs++js).drop (i*5)).take 5=x.map (Value.int .i64):=by
 obtain ⟨r,h1,⟨h2,h3⟩,h4⟩:=(SLr_RK (q:=.i64) (E:=fun _ _=>False) h).get (RK_ok .i64 (by decide)) hx
 subst h2
 have hi:=(List.getElem?_eq_some_iff.1 hx).1
 have hl:=vR_len h
 rw [List.drop_append_of_le_length (by omega),List.take_append_of_le_length (by rw [List.length_drop];omega),← h4]
 unfold vR;rw [flat_map]
theorem rd_V1 (h:W5 xs) (hx:xs[i]? =some x) (q:Nat) (hq:q<5) (js:List Value):LoadV Tryz.prog 3 (vR xs++js) (i*5+q) (I (x.getD q 0)):=by
 refine loadV_cell (d:=.int .i64) rfl rfl ?_
 have e:=congrArg (fun l:List Value=>l[q]?) (row_V h hx js)
 simp only [List.getElem?_take,List.getElem?_drop,List.getElem?_map] at e
 rw [if_pos hq] at e
 rw [e,List.getElem?_eq_getElem (by rw [h x (List.mem_of_getElem? hx)];exact hq),List.getD_eq_getElem?_getD,List.getElem?_eq_getElem (by rw [h x (List.mem_of_getElem? hx)];exact hq)]
 rfl
def vs26 (o n:Int) (m cap tot:Nat) (xs:List (List Int)) (js:List Value) (i:Nat) (E:Mem):St:=⟨[os 0 0 m cap,oI o,oI n]++nn 4++[oI (i:Nat)]++nn 22,[⟨26,.vals (vR xs++js),tot,true⟩],E⟩
theorem vr26 {cap:Nat} (h5:W5 xs) (hm:xs.length=m) (hn:m<=1000) (hi:i<=m/\∀ (j:Nat) x,j<i->xs[j]? =some x->isN o n x=false) (h:KK (B (xs.any (isN o n))) [⟨26,.vals (vR xs++js),tot,true⟩] E) (hQ:∀ s bx',cloK 1 KK s bx' E->Q s bx' E)
  (ih:i<m->(∀ x,xs[i]? =some x->isN o n x=false)->Lp R4 8 Tryz.f26 [1,0,1,0] 1 Q (vs26 o n m cap tot xs js (i+1) E)):Rnd R4 8 Tryz.f26 [1,0,1,0] 1 Q (vs26 o n m cap tot xs js i E):=by
 refine sm_ (?_:bif decide ((NI i)<(NI m)) then req (0<=(NI i)/\(NI i)<(NI m)) (∃ (n_1:Int),LoadV R4.P 3 (vR xs++js) (0+Int.toNat (NI i)*5+0) (I n_1)/\bif n_1==o then req (0<=(NI i)/\(NI i)<(NI m)) (∃ (n_2:Int),LoadV R4.P 3 (vR xs++js) (0+Int.toNat (NI i)*5+1) (I n_2)/\bif bif true then n_2==n else false then Q (B true) [⟨26,.vals (vR xs++js),tot,true⟩] E else Lp R4 8 Tryz.f26 [1,0,1,0] 1 Q { fr:=some (SV.slc 0 0 m cap)::oI o::oI n::none::none::none::none::oI (WI ((NI i)+1))::no16 (no4 (no2 [])),bx:=[(⟨26,.vals (vR xs++js),tot,true⟩:Box)],E:=E:St }) else Lp R4 8 Tryz.f26 [1,0,1,0] 1 Q { fr:=some (SV.slc 0 0 m cap)::oI o::oI n::none::none::none::none::oI (WI ((NI i)+1))::no16 (no4 (no2 [])),bx:=[(⟨26,.vals (vR xs++js),tot,true⟩:Box)],E:=E:St }) else Q (B false) [⟨26,.vals (vR xs++js),tot,true⟩] E)
 delta WI NI no2 no4 no16
 refine condC (fun g=>?_) (fun g=>?_)
 ·have g:i<m:=by simpa using g
  obtain ⟨x,hx⟩:∃ x,xs[i]? =some x:=⟨_,List.getElem?_eq_getElem (by omega)⟩
  have l0:=rd_V1 h5 hx 0 (by decide) js
  have l1:=rd_V1 h5 hx 1 (by decide) js
  have no:isN o n x=false->Lp R4 8 Tryz.f26 [1,0,1,0] 1 Q (vs26 o n m cap tot xs js (i+1) E):=fun q=>ih g (fun y hy=>by rw [hx] at hy;cases hy;exact q)
  rw [show 0+Int.toNat (i:Int)*5=i*5 by rw [Int.toNat_natCast];omega,wrap_i64 (x:=(i:Int)+1) (by omega)]
  refine req_intro (by omega) ⟨_,l0,condC (fun g1=>req_intro (by omega) ⟨_,l1,condC (fun g2=>?_) (fun g2=>?_)⟩) (fun g1=>?_)⟩
  ·have e:xs.any (isN o n)=true:=List.any_eq_true.2 ⟨x,List.mem_of_getElem? hx,by unfold isN;rw [g1];simpa using g2⟩
   rw [e] at h
   exact hQ _ _ (cloK_intro [some 0] h (wkG mr_))
  ·exact Lp_re [some 0] (no (by unfold isN;rw [g1];simpa using g2)) (wkG mr_)
  ·exact Lp_re [some 0] (no (by unfold isN;rw [g1];rfl)) (wkG mr_)
 ·have e:xs.any (isN o n)=false:=by
   rw [List.any_eq_false]
   intro x hx
   obtain ⟨j,hj,rfl⟩:=List.getElem_of_mem hx
   rw [hi.2 j _ (by simp at g;omega) (List.getElem?_eq_getElem hj)];simp
  rw [e] at h
  exact hQ _ _ (cloK_intro [some 0] h (wkG mr_))
theorem v26 {cap:Nat} (h5:W5 xs) (hm:xs.length=m) (hn:m<=1000) (h:KK (B (xs.any (isN o n))) [⟨26,.vals (vR xs++js),tot,true⟩] E) (hQ:∀ s bx',cloK 1 KK s bx' E->Q s bx' E):
  EntB R4 8 Tryz.f26 [.slc 0 0 m cap,I o,I n] [⟨26,.vals (vR xs++js),tot,true⟩] E Q:=by
 refine sm_ (?_:Lp R4 8 Tryz.f26 [1,0,1,0] 1 Q { fr:=some (SV.slc 0 0 m cap)::oI o::oI n::none::none::none::none::oI 0::no16 (no4 (no2 [])),bx:=[(⟨26,.vals (vR xs++js),tot,true⟩:Box)],E:=E:St })
 delta no2 no4 no16
 exact Lp_re [some 0] (Lp_ind okR4 (fun z:{i:Nat//i<=m/\∀ (j:Nat) x,j<i->xs[j]? =some x->isN o n x=false}=>vs26 o n m cap tot xs js z.1 E) (fun z=>m-z.1) (fun z ih=>vr26 h5 hm hn z.2 h hQ fun g hf=>ih ⟨z.1+1,g,fun j x hj hx=>by rcases Nat.lt_succ_iff_lt_or_eq.1 hj with q|q;exact z.2.2 j x q hx;subst q;exact hf x hx⟩ (by show m-(_+1)<m-_;omega)) ⟨0,Nat.zero_le _,fun j x hj=>absurd hj (Nat.not_lt_zero _)⟩) (wkG mr_)
def vs34 (o n:Int) (m cap tot:Nat) (xs:List (List Int)) (js:List Value) (k kcap ktot:Nat) (vs:List Value) (i:Nat) (E:Mem):St:=⟨[os 0 0 m cap,oI o,oI n]++nn 4++[os 1 0 k kcap,oI (i:Nat)]++nn 30,[⟨26,.vals (vR xs++js),tot,true⟩,⟨26,.vals vs,ktot,true⟩],E⟩
theorem vr34 {cap k:Nat} {ys:List (List Int)} (h5:W5 xs) (hm:xs.length=m) (hn:m<=1000) (hi:i<=m) (hy:ys=(xs.take i).filter fun x=> !isN o n x) (y5:W5 ys) (hk:ys.length=k) (hki:k<=i) (hc:k<=kcap/\kcap*5<=ktot)
  (h:∀ kcap ktot:Nat,(xs.filter fun x=> !isN o n x).length<=kcap->kcap*5<=ktot->KK (.slc 1 0 (xs.filter fun x=> !isN o n x).length kcap) [⟨26,.vals (vR xs++js),tot,true⟩,⟨26,.vals (vR (xs.filter fun x=> !isN o n x)),ktot,true⟩] E) (hQ:∀ s bx',cloK 1 KK s bx' E->Q s bx' E)
  (ih0:i<m->ys=((xs.take (i+1)).filter fun x=> !isN o n x)->Lp R5 8 Tryz.f34 [1,1,0,1,0] 1 Q (vs34 o n m cap tot xs js k kcap ktot (vR ys) (i+1) E))
  (ih1:i<m->∀ (x:List Int) (cap' tot':Nat),x.length=5->k+1<=cap'->cap'*5<=tot'->ys++[x]=((xs.take (i+1)).filter fun x=> !isN o n x)->Lp R5 8 Tryz.f34 [1,1,0,1,0] 1 Q (vs34 o n m cap tot xs js (k+1) cap' tot' (vR (ys++[x])) (i+1) E)):Rnd R5 8 Tryz.f34 [1,1,0,1,0] 1 Q (vs34 o n m cap tot xs js k kcap ktot (vR ys) i E):=by
 refine sm_ (?_:bif decide ((NI i)<(NI m)) then req (0<=(NI i)/\(NI i)<(NI m)) (∃ (n_1:Int),LoadV R5.P 3 (vR xs++js) (0+Int.toNat (NI i)*5+0) (I n_1)/\bif n_1 !=o then req (0<=(NI i)/\(NI i)<(NI m)) (∃ (n_2:Int),∃ (n_3:Int),∃ (n_4:Int),∃ (n_5:Int),∃ (n_6:Int),LoadV R5.P 26 (vR xs++js) (0+Int.toNat (NI i)*5) (SV.agg [I n_2,I n_3,I n_4,I n_5,I n_6])/\k*5<=List.length (Row.cells (Row.vals (vR ys)))/\kcap*5<=ktot/\k<=kcap/\req ((k+1)*40<=140737488355328) (∀ (cap' tot':Nat),k+1<=cap'->cap'*5<=tot'->Lp R5 8 Tryz.f34 [1,1,0,1,0] 1 Q { fr:=some (SV.slc 0 0 m cap)::oI o::oI n::none::none::none::none::os 3 0 (k+1) cap'::oI (WI ((NI i)+1))::no16 (no8 (no4 (no2 []))),bx:=[(⟨26,.vals (vR xs++js),tot,true⟩:Box),⟨26,.lst [],0,false⟩,⟨26,.lst [I n_2,I n_3,I n_4,I n_5,I n_6],5,true⟩,⟨26,.vals (List.take (k*5) (vR ys)++[Value.int IntKind.i64 n_2,Value.int IntKind.i64 n_3,Value.int IntKind.i64 n_4,Value.int IntKind.i64 n_5,Value.int IntKind.i64 n_6]),tot',true⟩],E:=E:St })) else req (0<=(NI i)/\(NI i)<(NI m)) (∃ (n_2:Int),LoadV R5.P 3 (vR xs++js) (0+Int.toNat (NI i)*5+1) (I n_2)/\bif bif false then true else n_2 !=n then req (0<=(NI i)/\(NI i)<(NI m)) (∃ (n_3:Int),∃ (n_4:Int),∃ (n_5:Int),∃ (n_6:Int),∃ (n_7:Int),LoadV R5.P 26 (vR xs++js) (0+Int.toNat (NI i)*5) (SV.agg [I n_3,I n_4,I n_5,I n_6,I n_7])/\k*5<=List.length (Row.cells (Row.vals (vR ys)))/\kcap*5<=ktot/\k<=kcap/\req ((k+1)*40<=140737488355328) (∀ (cap' tot':Nat),k+1<=cap'->cap'*5<=tot'->Lp R5 8 Tryz.f34 [1,1,0,1,0] 1 Q { fr:=some (SV.slc 0 0 m cap)::oI o::oI n::none::none::none::none::os 3 0 (k+1) cap'::oI (WI ((NI i)+1))::no16 (no8 (no4 (no2 []))),bx:=[(⟨26,.vals (vR xs++js),tot,true⟩:Box),⟨26,.lst [],0,false⟩,⟨26,.lst [I n_3,I n_4,I n_5,I n_6,I n_7],5,true⟩,⟨26,.vals (List.take (k*5) (vR ys)++[Value.int IntKind.i64 n_3,Value.int IntKind.i64 n_4,Value.int IntKind.i64 n_5,Value.int IntKind.i64 n_6,Value.int IntKind.i64 n_7]),tot',true⟩],E:=E:St })) else Lp R5 8 Tryz.f34 [1,1,0,1,0] 1 Q { fr:=some (SV.slc 0 0 m cap)::oI o::oI n::none::none::none::none::os 1 0 k kcap::oI (WI ((NI i)+1))::no16 (no8 (no4 (no2 []))),bx:=[(⟨26,.vals (vR xs++js),tot,true⟩:Box),⟨26,.vals (vR ys),ktot,true⟩],E:=E:St })) else Q (SV.slc 1 0 k kcap) [⟨26,.vals (vR xs++js),tot,true⟩,⟨26,.vals (vR ys),ktot,true⟩] E)
 delta WI NI no2 no4 no8 no16
 refine condC (fun g=>?_) (fun g=>?_)
 ·have g:i<m:=by simpa using g
  obtain ⟨x,hx⟩:∃ x,xs[i]? =some x:=⟨_,List.getElem?_eq_getElem (by omega)⟩
  have l0:=rd_V1 h5 hx 0 (by decide) js
  have l1:=rd_V1 h5 hx 1 (by decide) js
  obtain ⟨a0,a1,a2,a3,a4,ex,lt⟩:=rd_V h5 hx
  have hx5:x.length=5:=by rw [ex];rfl
  have ft:=filter_take (p:=fun x=> !isN o n x) hx
  have no:isN o n x=true->Lp R5 8 Tryz.f34 [1,1,0,1,0] 1 Q (vs34 o n m cap tot xs js k kcap ktot (vR ys) (i+1) E):=fun q=>ih0 g (by rw [ft,if_neg (by simp [q])];exact hy)
  have yes:isN o n x=false->∀ (cap' tot':Nat),k+1<=cap'->cap'*5<=tot'->Lp R5 8 Tryz.f34 [1,1,0,1,0] 1 Q (vs34 o n m cap tot xs js (k+1) cap' tot' (vR (ys++[x])) (i+1) E):=fun q cap' tot' q1 q2=>ih1 g x cap' tot' hx5 q1 q2 (by rw [ft,if_pos (by simp [q]),← hy])
  have ev:List.take (k*5) (vR ys)++[Value.int .i64 a0,Value.int .i64 a1,Value.int .i64 a2,Value.int .i64 a3,Value.int .i64 a4]=vR (ys++[x]):=by
   have:=vR_snoc (x:=x) y5 hk
   rw [ex] at this ⊢;exact this
  rw [show 0+Int.toNat (i:Int)*5=i*5 by rw [Int.toNat_natCast];omega,wrap_i64 (x:=(i:Int)+1) (by omega)]
  refine req_intro (by omega) ⟨_,l0,condC (fun g1=>?_) (fun g1=>?_)⟩
  ·refine req_intro (by omega) ⟨a0,a1,a2,a3,a4,lt js,vR_cells y5 hk,hc.2,hc.1,req_intro (by omega) fun cap' tot' q1 q2=>?_⟩
   rw [ev]
   exact Lp_re [some 0,some 3] (yes (by unfold isN;simp at g1;simp [g1]) cap' tot' q1 q2) (wkG mr_)
  ·refine req_intro (by omega) ⟨_,l1,condC (fun g2=>?_) (fun g2=>?_)⟩
   ·refine req_intro (by omega) ⟨a0,a1,a2,a3,a4,lt js,vR_cells y5 hk,hc.2,hc.1,req_intro (by omega) fun cap' tot' q1 q2=>?_⟩
    rw [ev]
    exact Lp_re [some 0,some 3] (yes (by unfold isN;simp at g1 g2;simp [g1,g2]) cap' tot' q1 q2) (wkG mr_)
   ·exact Lp_re [some 0,some 1] (no (by unfold isN;simp at g1 g2;simp [g1,g2])) (wkG mr_)
 ·have g:¬ i<m:=by simpa using g
  have e:ys=xs.filter fun x=> !isN o n x:=by rw [hy,List.take_of_length_le (by omega)]
  have k:=h kcap ktot (by rw [← e,hk];exact hc.1) hc.2
  rw [← e,hk] at k
  exact hQ _ _ (cloK_intro [some 0,some 1] k (wkG mr_))
theorem v34 {cap:Nat} (h5:W5 xs) (hm:xs.length=m) (hn:m<=1000)
  (h:∀ kcap ktot:Nat,(xs.filter fun x=> !isN o n x).length<=kcap->kcap*5<=ktot->KK (.slc 1 0 (xs.filter fun x=> !isN o n x).length kcap) [⟨26,.vals (vR xs++js),tot,true⟩,⟨26,.vals (vR (xs.filter fun x=> !isN o n x)),ktot,true⟩] E) (hQ:∀ s bx',cloK 1 KK s bx' E->Q s bx' E):
  EntB R5 8 Tryz.f34 [.slc 0 0 m cap,I o,I n] [⟨26,.vals (vR xs++js),tot,true⟩] E Q:=by
 refine sm_ (?_:Lp R5 8 Tryz.f34 [1,1,0,1,0] 1 Q { fr:=some (SV.slc 0 0 m cap)::oI o::oI n::none::none::none::oL none 0 0::oL none 0 0::oI 0::no16 (no8 (no4 (no2 []))),bx:=[(⟨26,.vals (vR xs++js),tot,true⟩:Box)],E:=E:St })
 delta no2 no4 no8 no16
 have key:=Lp_ind okR5 (n:=8) (fn:=Tryz.f34) (p:=[1,1,0,1,0]) (n0:=1) (K:=Q) (fun z:{z:Nat×Nat×Nat×Nat×List (List Int)//z.1<=m/\z.2.2.2.2=((xs.take z.1).filter fun x=> !isN o n x)/\W5 z.2.2.2.2/\z.2.2.2.2.length=z.2.1/\z.2.1<=z.1/\z.2.1<=z.2.2.1/\z.2.2.1*5<=z.2.2.2.1}=>vs34 o n m cap tot xs js z.1.2.1 z.1.2.2.1 z.1.2.2.2.1 (vR z.1.2.2.2.2) z.1.1 E) (fun z=>m-z.1.1) (by
  rintro ⟨⟨i,k,kcap,ktot,ys⟩,g1,g2,g3,g4,g5,g6,g7⟩ ih
  have g5:k<=i:=g5
  have g4:ys.length=k:=g4
  refine vr34 h5 hm hn g1 g2 g3 g4 g5 ⟨g6,g7⟩ h hQ (fun (q:i<m) e=>ih ⟨⟨i+1,k,kcap,ktot,ys⟩,q,e,g3,g4,Nat.le_succ_of_le g5,g6,g7⟩ (by show m-(i+1)<m-i;omega)) (fun (q:i<m) x cap' tot' q1 q2 q3 e=>ih ⟨⟨i+1,k+1,cap',tot',ys++[x]⟩,q,e,g3.snoc q1,?_,Nat.succ_le_succ g5,q2,q3⟩ (by show m-(i+1)<m-i;omega))
  show (ys++[x]).length=k+1
  simp [g4])
 exact Lp_re [some 0,none] (key ⟨⟨0,0,0,0,[]⟩,Nat.zero_le _,rfl,(fun x hx=>nomatch hx),rfl,Nat.le_refl _,Nat.le_refl _,Nat.le_refl _⟩) (wkG mr_)
theorem has_sem {b cap:Nat} {K:KT} (hb:bx[b]? =some ⟨26,.vals (vR xs++js),tot,true⟩) (h5:W5 xs) (hm:xs.length=m) (hn:m<=1000) (hk:K (B (xs.any (isN o n))) bx E):CallSem Tryz.prog 26 [.slc b 0 m cap,I o,I n] bx E K:=by
 refine CallSem.hand (σ:=[b]) (bxs:=[⟨26,.vals (vR xs++js),tot,true⟩]) ⟨by simp,rfl,fun i y hy=>?_⟩ (args':=[.slc 0 0 m cap,I o,I n]) ?_ (EntB.sem okR4 Tryz.func26 ⟨by kernel_rfl,by kernel_rfl⟩ (v26 h5 hm hn ?_ (fun _ _ q=>q)))
 ·match i,hy with
  | 0,hy=>
   simp only [List.getElem?_cons_zero,Option.some.injEq] at hy;subst hy
   exact ⟨rfl,b,rfl,by simpa [Box.ren,Row.ren] using hb⟩
  | j+1,hy=>simp at hy
 ·simp only [SV.renL,SV.ren,renF,List.getElem?_cons_zero]
 ·simp only [SV.ren,SV.renL,merge,setAll,List.take,List.drop,List.map,List.length_cons,List.length_nil,Box.ren,Row.ren,renF,List.getElem?_cons_zero,List.getElem?_cons_succ]
  rw [set_sameB hb]
  simpa using hk
theorem without_sem {b cap:Nat} {K:KT} (hb:bx[b]? =some ⟨26,.vals (vR xs++js),tot,true⟩) (h5:W5 xs) (hm:xs.length=m) (hn:m<=1000) (hk:∀ (k kcap ktot:Nat),(xs.filter fun x=> !isN o n x).length=k->k<=kcap->kcap*5<=ktot->K (.slc bx.length 0 k kcap) (bx++[⟨26,.vals (vR (xs.filter fun x=> !isN o n x)),ktot,true⟩]) E):CallSem Tryz.prog 34 [.slc b 0 m cap,I o,I n] bx E K:=by
 refine CallSem.hand (σ:=[b]) (bxs:=[⟨26,.vals (vR xs++js),tot,true⟩]) ⟨by simp,rfl,fun i y hy=>?_⟩ (args':=[.slc 0 0 m cap,I o,I n]) ?_ (EntB.sem okR5 Tryz.func34 ⟨by kernel_rfl,by kernel_rfl⟩ (v34 h5 hm hn ?_ (fun _ _ q=>q)))
 ·match i,hy with
  | 0,hy=>
   simp only [List.getElem?_cons_zero,Option.some.injEq] at hy;subst hy
   exact ⟨rfl,b,rfl,by simpa [Box.ren,Row.ren] using hb⟩
  | j+1,hy=>simp at hy
 ·simp only [SV.renL,SV.ren,renF,List.getElem?_cons_zero]
 ·intro kcap ktot q1 q2
  simp only [SV.ren,SV.renL,merge,setAll,List.take,List.drop,List.map,List.length_cons,List.length_nil,Box.ren,Row.ren,renF,List.getElem?_cons_zero,List.getElem?_cons_succ]
  rw [set_sameB hb]
  simpa [renF] using hk _ kcap ktot rfl q1 q2
def tabHW:CallT:=fun f args bx E K=>match f with
 | 26=>d3 args fun x0 x1 x2=>dI x1 fun o=>dI x2 fun n=>(match x0 with | .slc b 0 m cap=>∃ (tot:Nat) (xs:List (List Int)) (js:List Value),bx[b]? =some ⟨26,.vals (vR xs++js),tot,true⟩/\W5 xs/\xs.length=m/\m<=1000/\K (B (xs.any (isN o n))) bx E|_=>False)
 | 34=>d3 args fun x0 x1 x2=>dI x1 fun o=>dI x2 fun n=>(match x0 with | .slc b 0 m cap=>∃ (tot:Nat) (xs:List (List Int)) (js:List Value),bx[b]? =some ⟨26,.vals (vR xs++js),tot,true⟩/\W5 xs/\xs.length=m/\m<=1000/\(∀ (k kcap ktot:Nat),(xs.filter fun x=> !isN o n x).length=k->k<=kcap->kcap*5<=ktot->K (.slc bx.length 0 k kcap) (bx++[⟨26,.vals (vR (xs.filter fun x=> !isN o n x)),ktot,true⟩]) E)|_=>False)
 | _=>False
theorem tabHW_ok (f:FuncId) (args:List SV) (bx:List Box) (E:Mem) (K:KT) (h:tabHW f args bx E K):CallSem Tryz.prog f args bx E K:=by
 unfold tabHW at h
 split at h
 ·skip
  replace h:=d3_elim h
  obtain ⟨x0,x1,x2,rfl,h⟩:=h
  replace h:=dI_elim h
  obtain ⟨o,rfl,h⟩:=h
  replace h:=dI_elim h
  obtain ⟨n,rfl,h⟩:=h
  split at h
  case h_2=>exact h.elim
  obtain ⟨tot,xs,js,h1,h2,h3,h4,h5⟩:=h
  exact has_sem h1 h2 h3 h4 h5
 ·skip
  replace h:=d3_elim h
  obtain ⟨x0,x1,x2,rfl,h⟩:=h
  replace h:=dI_elim h
  obtain ⟨o,rfl,h⟩:=h
  replace h:=dI_elim h
  obtain ⟨n,rfl,h⟩:=h
  split at h
  case h_2=>exact h.elim
  obtain ⟨tot,xs,js,h1,h2,h3,h4,h5⟩:=h
  exact without_sem h1 h2 h3 h4 h5
 ·exact h.elim
noncomputable def tabz25:FuncId->List SV->Mem->(SV->Mem->Prop)->Prop:=fun f args E K=>match f with
 | 25=>d1 args fun x0=>dC x0 fun l1=>d5 l1 fun x0_0 x0_1 x0_2 x0_3 x0_4=>dI x0_0 fun a1=>dI x0_1 fun a2=>dI x0_2 fun a3=>dI x0_3 fun a4=>dI x0_4 fun a5=>(K (B (okR a1 a2 a3 a4 a5)) E)
 | _=>False
theorem tabz25_ok:TabOK Tryz.prog tabz25:=by
 intro f args E K h
 unfold tabz25 at h
 split at h
 ·replace h:=d1_elim h
  obtain ⟨x0,rfl,h⟩:=h
  replace h:=dC_elim h
  obtain ⟨l1,hl1,h⟩:=h
  replace h:=d5_elim h
  obtain ⟨x0_0,x0_1,x0_2,x0_3,x0_4,rfl,h⟩:=h
  replace h:=dI_elim h
  obtain ⟨a1,rfl,h⟩:=h
  replace h:=dI_elim h
  obtain ⟨a2,rfl,h⟩:=h
  replace h:=dI_elim h
  obtain ⟨a3,rfl,h⟩:=h
  replace h:=dI_elim h
  obtain ⟨a4,rfl,h⟩:=h
  replace h:=dI_elim h
  obtain ⟨a5,rfl,h⟩:=h
  exact TabSem.congr (valL_cons (asCells_val hl1) rfl) (Ent.sem okQ1 Tryz.func25 ⟨by kernel_rfl,by kernel_rfl⟩ rfl (c14 h))
 ·exact h.elim
noncomputable def R7:Cx:={ P:=Tryz.prog,inl:=fun f=>List.contains [] f,tab:=tabz25,isB:=fun f=>f==26||f==34,tabB:=tabHW,opt:={ unroll:=0,carry:=[] },muts:=(fun o=>match o with | .call { args:=#[.tmp 85,.tmp 88,.tmp 91],.. }=>true| .call { args:=#[.tmp 93,.tmp 96,.tmp 99],.. }=>true|o=>mutsD o) }
theorem okR7:CxOK R7:=CxOK.four tabz25_ok (by kernel_rfl) (okInl (by kernel_rfl)) tabHW_ok
theorem v20 {cap:Nat} {lb:Option Addr} {ln lc:Nat} {ns:List Int} (hl:SL (RK .i64 1) E lb ln lc (ns.map fun z=>[z])) (I':Inv me (xs,cnt)) (hm:xs.length=m) (hc:m<=cap/\cap*5<=tot) (hj:∀ v∈js,v.oneCell'=true)
  (hF0:appF me (xs,cnt) ns=none->KK (.tup [L none 0 0,I 0,B false]) [⟨26,.vals (vR xs++js),tot,true⟩] E)
  (hF1:∀ (ys:List (List Int)) (k kcap ktot:Nat),appF me (xs,cnt) ns=none->KK (.tup [.slc 1 0 k kcap,I cnt,B false]) [⟨26,.vals (vR xs++js),tot,true⟩,⟨26,.vals (vR ys),ktot,true⟩] E)
  (h1:∀ c:Int,appF me (xs,cnt) ns=some (xs,c)->KK (.tup [.slc 0 0 m cap,I c,B true]) [⟨26,.vals (vR xs++js),tot,true⟩] E)
  (h2:∀ (ys:List (List Int)) (c:Int) (k kcap ktot:Nat),appF me (xs,cnt) ns=some (ys,c)->ys.length=k->k<=kcap->kcap*5<=ktot->KK (.tup [.slc 1 0 k kcap,I c,B true]) [⟨26,.vals (vR xs++js),tot,true⟩,⟨26,.vals (vR ys),ktot,true⟩] E)
  (hQ:∀ s bx',cloK 1 KK s bx' E->Q s bx' E):
  EntB R7 8 Tryz.f20 [.slc 0 0 m cap,I cnt,I me,L lb ln lc] [⟨26,.vals (vR xs++js),tot,true⟩] E Q:=by
 refine sm_ (?_:bif (NI ln)==6 then req ((0:Int)<=(0:Int)/\0<(NI ln)) (nE E lb ln lc/\∃ (n:Int),LoadE R7.P E 3 (VS lb ln lc) 0 (I n)/\bif bif true then n==(1:Int) else false then req ((0:Int)<=(1:Int)/\1<(NI ln)) (nE E lb ln lc/\∃ (n:Int),LoadE R7.P E 3 (VS lb ln lc) 1 (I n)/\req ((0:Int)<=(2:Int)/\2<(NI ln)) (nE E lb ln lc/\∃ (n_1:Int),LoadE R7.P E 3 (VS lb ln lc) 2 (I n_1)/\req ((0:Int)<=(3:Int)/\3<(NI ln)) (nE E lb ln lc/\∃ (n_2:Int),LoadE R7.P E 3 (VS lb ln lc) 3 (I n_2)/\req ((0:Int)<=(4:Int)/\4<(NI ln)) (nE E lb ln lc/\∃ (n_3:Int),LoadE R7.P E 3 (VS lb ln lc) 4 (I n_3)/\req ((0:Int)<=(5:Int)/\5<(NI ln)) (nE E lb ln lc/\∃ (n_4:Int),LoadE R7.P E 3 (VS lb ln lc) 5 (I n_4)/\Mem.le E E/\∃ (tot_1:Nat),∃ (xs_1:List (List Int)),∃ (js_1:List Value),some (⟨26,.vals (vR xs++js),tot,true⟩:Box)=some (⟨26,.vals (vR xs_1++js_1),tot_1,true⟩:Box)/\W5 xs_1/\List.length xs_1=m/\m<=1000/\bif !okR n n_1 n_2 n_3 n_4 then Q (SV.tup [L none 0 0,I 0,B false]) [⟨26,.vals (vR xs++js),tot,true⟩,⟨26,.lst [I n,I n_1,I n_2,I n_3,I n_4],5,true⟩] E else bif bif false then true else List.any xs_1 (isN n n_1) then Q (SV.tup [L none 0 0,I 0,B false]) [⟨26,.vals (vR xs++js),tot,true⟩,⟨26,.lst [I n,I n_1,I n_2,I n_3,I n_4],5,true⟩] E else bif bif false then true else decide ((NI m)>=16) then Q (SV.tup [L none 0 0,I 0,B false]) [⟨26,.vals (vR xs++js),tot,true⟩,⟨26,.lst [I n,I n_1,I n_2,I n_3,I n_4],5,true⟩] E else 0+m*5<=List.length (vR xs++js)/\(∀ (x:Value),List.Mem x (vR xs++js)->Value.oneCell' x=true)/\req (m*40<=140737488355328) (∀ (cap' tot':Nat),m<=cap'->cap'*5<=tot'->m*5<=List.length (Row.cells (Row.vals (List.take (m*5) (List.drop 0 (vR xs++js)))))/\cap'*5<=tot'/\m<=cap'/\req ((m+1)*40<=140737488355328) (∀ (cap' tot':Nat),m+1<=cap'->cap'*5<=tot'->bif n==me then Q (SV.tup [SV.slc 4 0 (m+(1:Nat)) cap',I (if n_1>cnt then n_1 else cnt),B true]) [⟨(26:Nat),Row.vals (vR xs++js),tot,true⟩,⟨(26:Nat),Row.lst [I n,I n_1,I n_2,I n_3,I n_4],5,true⟩,⟨(26:Nat),Row.lst [],0,false⟩,⟨(26:Nat),Row.lst [I n,I n_1,I n_2,I n_3,I n_4],5,true⟩,⟨(26:Nat),Row.vals (List.take (m*(5:Nat)) (List.take (m*(5:Nat)) (List.drop 0 (vR xs++js)))++[Value.int IntKind.i64 n,Value.int IntKind.i64 n_1,Value.int IntKind.i64 n_2,Value.int IntKind.i64 n_3,Value.int IntKind.i64 n_4]),tot',true⟩] E else Q (SV.tup [SV.slc 4 0 (m+(1:Nat)) cap',I cnt,B true]) [⟨(26:Nat),Row.vals (vR xs++js),tot,true⟩,⟨(26:Nat),Row.lst [I n,I n_1,I n_2,I n_3,I n_4],5,true⟩,⟨(26:Nat),Row.lst [],0,false⟩,⟨(26:Nat),Row.lst [I n,I n_1,I n_2,I n_3,I n_4],5,true⟩,⟨(26:Nat),Row.vals (List.take (m*(5:Nat)) (List.take (m*(5:Nat)) (List.drop 0 (vR xs++js)))++[Value.int IntKind.i64 n,Value.int IntKind.i64 n_1,Value.int IntKind.i64 n_2,Value.int IntKind.i64 n_3,Value.int IntKind.i64 n_4]),tot',true⟩] E))))))) else bif (NI ln)==3 then req ((0:Int)<=(0:Int)/\0<(NI ln)) (nE E lb ln lc/\∃ (n:Int),LoadE R7.P E 3 (VS lb ln lc) 0 (I n)/\bif bif true then n==(2:Int) else false then req ((0:Int)<=(1:Int)/\1<(NI ln)) (nE E lb ln lc/\∃ (n:Int),LoadE R7.P E 3 (VS lb ln lc) 1 (I n)/\req ((0:Int)<=(2:Int)/\2<(NI ln)) (nE E lb ln lc/\∃ (n_1:Int),LoadE R7.P E 3 (VS lb ln lc) 2 (I n_1)/\∃ (tot_1:Nat),∃ (xs_1:List (List Int)),∃ (js_1:List Value),some (⟨26,.vals (vR xs++js),tot,true⟩:Box)=some (⟨26,.vals (vR xs_1++js_1),tot_1,true⟩:Box)/\W5 xs_1/\List.length xs_1=m/\m<=1000/\req ((0:Int)<=(1:Int)/\1<(NI ln)) (nE E lb ln lc/\∃ (n_2:Int),LoadE R7.P E 3 (VS lb ln lc) 1 (I n_2)/\req ((0:Int)<=(2:Int)/\2<(NI ln)) (nE E lb ln lc/\∃ (n_3:Int),LoadE R7.P E 3 (VS lb ln lc) 2 (I n_3)/\∃ (tot_2:Nat),∃ (xs_2:List (List Int)),∃ (js_2:List Value),some (⟨26,.vals (vR xs++js),tot,true⟩:Box)=some (⟨26,.vals (vR xs_2++js_2),tot_2,true⟩:Box)/\W5 xs_2/\List.length xs_2=m/\m<=1000/\∀ (k kcap ktot:Nat),List.length (List.filter (fun (x:List Int)=> !isN n_2 n_3 x) xs_2)=k->k<=kcap->kcap*5<=ktot->Q (SV.tup [SV.slc 1 0 k kcap,I cnt,B (List.any xs_1 (isN n n_1))]) [⟨26,.vals (vR xs++js),tot,true⟩,⟨26,.vals (vR (List.filter (fun (x:List Int)=> !isN n_2 n_3 x) xs_2)),ktot,true⟩] E)))) else bif (NI ln)==2 then req ((0:Int)<=(0:Int)/\0<(NI ln)) (nE E lb ln lc/\∃ (n:Int),LoadE R7.P E 3 (VS lb ln lc) 0 (I n)/\bif bif true then n==(3:Int) else false then req ((0:Int)<=(1:Int)/\1<(NI ln)) (nE E lb ln lc/\∃ (n:Int),LoadE R7.P E 3 (VS lb ln lc) 1 (I n)/\bif bif true then decide (n>=(1:Int)) else false then req ((0:Int)<=(1:Int)/\1<(NI ln)) (nE E lb ln lc/\∃ (n:Int),LoadE R7.P E 3 (VS lb ln lc) 1 (I n)/\bif bif true then decide (n<=(1000000000:Int)) else false then req ((0:Int)<=(1:Int)/\1<(NI ln)) (nE E lb ln lc/\∃ (n:Int),LoadE R7.P E 3 (VS lb ln lc) 1 (I n)/\Q (SV.tup [SV.slc 0 0 m cap,I (if n>cnt then n else cnt),B true]) [⟨26,.vals (vR xs++js),tot,true⟩] E) else Q (SV.tup [L none 0 0,I 0,B false]) [⟨26,.vals (vR xs++js),tot,true⟩] E) else Q (SV.tup [L none 0 0,I 0,B false]) [⟨26,.vals (vR xs++js),tot,true⟩] E) else Q (SV.tup [L none 0 0,I 0,B false]) [⟨26,.vals (vR xs++js),tot,true⟩] E) else Q (SV.tup [L none 0 0,I 0,B false]) [⟨26,.vals (vR xs++js),tot,true⟩] E) else bif (NI ln)==2 then req ((0:Int)<=(0:Int)/\0<(NI ln)) (nE E lb ln lc/\∃ (n:Int),LoadE R7.P E 3 (VS lb ln lc) 0 (I n)/\bif bif true then n==(3:Int) else false then req ((0:Int)<=(1:Int)/\1<(NI ln)) (nE E lb ln lc/\∃ (n:Int),LoadE R7.P E 3 (VS lb ln lc) 1 (I n)/\bif bif true then decide (n>=(1:Int)) else false then req ((0:Int)<=(1:Int)/\1<(NI ln)) (nE E lb ln lc/\∃ (n:Int),LoadE R7.P E 3 (VS lb ln lc) 1 (I n)/\bif bif true then decide (n<=(1000000000:Int)) else false then req ((0:Int)<=(1:Int)/\1<(NI ln)) (nE E lb ln lc/\∃ (n:Int),LoadE R7.P E 3 (VS lb ln lc) 1 (I n)/\Q (SV.tup [SV.slc 0 0 m cap,I (if n>cnt then n else cnt),B true]) [⟨26,.vals (vR xs++js),tot,true⟩] E) else Q (SV.tup [L none 0 0,I 0,B false]) [⟨26,.vals (vR xs++js),tot,true⟩] E) else Q (SV.tup [L none 0 0,I 0,B false]) [⟨26,.vals (vR xs++js),tot,true⟩] E) else Q (SV.tup [L none 0 0,I 0,B false]) [⟨26,.vals (vR xs++js),tot,true⟩] E) else Q (SV.tup [L none 0 0,I 0,B false]) [⟨26,.vals (vR xs++js),tot,true⟩] E) else bif (NI ln)==3 then req ((0:Int)<=(0:Int)/\0<(NI ln)) (nE E lb ln lc/\∃ (n:Int),LoadE R7.P E 3 (VS lb ln lc) 0 (I n)/\bif bif true then n==(2:Int) else false then req ((0:Int)<=(1:Int)/\1<(NI ln)) (nE E lb ln lc/\∃ (n:Int),LoadE R7.P E 3 (VS lb ln lc) 1 (I n)/\req ((0:Int)<=(2:Int)/\2<(NI ln)) (nE E lb ln lc/\∃ (n_1:Int),LoadE R7.P E 3 (VS lb ln lc) 2 (I n_1)/\∃ (tot_1:Nat),∃ (xs_1:List (List Int)),∃ (js_1:List Value),some (⟨26,.vals (vR xs++js),tot,true⟩:Box)=some (⟨26,.vals (vR xs_1++js_1),tot_1,true⟩:Box)/\W5 xs_1/\List.length xs_1=m/\m<=1000/\req ((0:Int)<=(1:Int)/\1<(NI ln)) (nE E lb ln lc/\∃ (n_2:Int),LoadE R7.P E 3 (VS lb ln lc) 1 (I n_2)/\req ((0:Int)<=(2:Int)/\2<(NI ln)) (nE E lb ln lc/\∃ (n_3:Int),LoadE R7.P E 3 (VS lb ln lc) 2 (I n_3)/\∃ (tot_2:Nat),∃ (xs_2:List (List Int)),∃ (js_2:List Value),some (⟨26,.vals (vR xs++js),tot,true⟩:Box)=some (⟨26,.vals (vR xs_2++js_2),tot_2,true⟩:Box)/\W5 xs_2/\List.length xs_2=m/\m<=1000/\∀ (k kcap ktot:Nat),List.length (List.filter (fun (x:List Int)=> !isN n_2 n_3 x) xs_2)=k->k<=kcap->kcap*5<=ktot->Q (SV.tup [SV.slc 1 0 k kcap,I cnt,B (List.any xs_1 (isN n n_1))]) [⟨26,.vals (vR xs++js),tot,true⟩,⟨26,.vals (vR (List.filter (fun (x:List Int)=> !isN n_2 n_3 x) xs_2)),ktot,true⟩] E)))) else bif (NI ln)==2 then req ((0:Int)<=(0:Int)/\0<(NI ln)) (nE E lb ln lc/\∃ (n:Int),LoadE R7.P E 3 (VS lb ln lc) 0 (I n)/\bif bif true then n==(3:Int) else false then req ((0:Int)<=(1:Int)/\1<(NI ln)) (nE E lb ln lc/\∃ (n:Int),LoadE R7.P E 3 (VS lb ln lc) 1 (I n)/\bif bif true then decide (n>=(1:Int)) else false then req ((0:Int)<=(1:Int)/\1<(NI ln)) (nE E lb ln lc/\∃ (n:Int),LoadE R7.P E 3 (VS lb ln lc) 1 (I n)/\bif bif true then decide (n<=(1000000000:Int)) else false then req ((0:Int)<=(1:Int)/\1<(NI ln)) (nE E lb ln lc/\∃ (n:Int),LoadE R7.P E 3 (VS lb ln lc) 1 (I n)/\Q (SV.tup [SV.slc 0 0 m cap,I (if n>cnt then n else cnt),B true]) [⟨26,.vals (vR xs++js),tot,true⟩] E) else Q (SV.tup [L none 0 0,I 0,B false]) [⟨26,.vals (vR xs++js),tot,true⟩] E) else Q (SV.tup [L none 0 0,I 0,B false]) [⟨26,.vals (vR xs++js),tot,true⟩] E) else Q (SV.tup [L none 0 0,I 0,B false]) [⟨26,.vals (vR xs++js),tot,true⟩] E) else Q (SV.tup [L none 0 0,I 0,B false]) [⟨26,.vals (vR xs++js),tot,true⟩] E) else bif (NI ln)==2 then req ((0:Int)<=(0:Int)/\0<(NI ln)) (nE E lb ln lc/\∃ (n:Int),LoadE R7.P E 3 (VS lb ln lc) 0 (I n)/\bif bif true then n==(3:Int) else false then req ((0:Int)<=(1:Int)/\1<(NI ln)) (nE E lb ln lc/\∃ (n:Int),LoadE R7.P E 3 (VS lb ln lc) 1 (I n)/\bif bif true then decide (n>=(1:Int)) else false then req ((0:Int)<=(1:Int)/\1<(NI ln)) (nE E lb ln lc/\∃ (n:Int),LoadE R7.P E 3 (VS lb ln lc) 1 (I n)/\bif bif true then decide (n<=(1000000000:Int)) else false then req ((0:Int)<=(1:Int)/\1<(NI ln)) (nE E lb ln lc/\∃ (n:Int),LoadE R7.P E 3 (VS lb ln lc) 1 (I n)/\Q (SV.tup [SV.slc 0 0 m cap,I (if n>cnt then n else cnt),B true]) [⟨26,.vals (vR xs++js),tot,true⟩] E) else Q (SV.tup [L none 0 0,I 0,B false]) [⟨26,.vals (vR xs++js),tot,true⟩] E) else Q (SV.tup [L none 0 0,I 0,B false]) [⟨26,.vals (vR xs++js),tot,true⟩] E) else Q (SV.tup [L none 0 0,I 0,B false]) [⟨26,.vals (vR xs++js),tot,true⟩] E) else Q (SV.tup [L none 0 0,I 0,B false]) [⟨26,.vals (vR xs++js),tot,true⟩] E)
 delta NI VS
 have hn:ns.length=ln:=by have:=hl.len;simpa using this
 have w5:W5 xs:=I'.w5
 have le:xs.length<=16:=I'.le
 have vl:=vR_len w5
 have ld:∀ i,i<ln->LoadE Tryz.prog E 3 (.slice lb ln lc) i (.raw (.int .i64 (ns.getD i 0))):=fun i hi=>IS_load hl hi
 have ne:∀ i,i<ln->∃ cs,E (.slice lb ln lc) cs/\(cs=[]->False):=fun i hi=>SL.ne (RK_ok .i64 (by decide)) hl hi
 have f0:∀ bx:List Box,bx[0]? =some ⟨26,.vals (vR xs++js),tot,true⟩->appF me (xs,cnt) ns=none->Q (.tup [L none 0 0,I 0,B false]) bx E:=fun bx hb q=>hQ _ _ (cloK_intro [some 0] (hF0 q) (by
  match bx,hb with
  | b::bx,hb=>
   simp only [List.getElem?_cons_zero,Option.some.injEq] at hb;subst hb
   exact (wkG mr_)))
 have ia:∀ o n:Int,idxR o n xs<0↔xs.any (isN o n)=false:=fun o n=>by
  have:=idx_any (o:=o) (n:=n) (xs:=xs)
  constructor
  ·intro q
   cases w:xs.any (isN o n) with
   | false=>rfl
   | true=>have:=this.2 w;omega
  ·intro q
   refine Int.not_le.1 fun w=>?_
   rw [this.1 w] at q;cases q
 unfold appF at f0 hF0 hF1 h1 h2
 refine condC (fun g6=>?_) (fun g6=>?_)
 ·have g6:ln=6:=by simp at g6;omega
  subst g6
  refine req_intro (by omega) ⟨ne 0 (by omega),_,ld 0 (by omega),condC (fun g1=>?_) (fun g1=>?_)⟩
  ·have g1:ns.getD 0 0=1:=by simpa using g1
   rw [if_pos ⟨hn,g1⟩] at f0 hF0 hF1 h1 h2
   refine req_intro (by omega) ⟨ne 1 (by omega),_,ld 1 (by omega),req_intro (by omega) ⟨ne 2 (by omega),_,ld 2 (by omega),req_intro (by omega) ⟨ne 3 (by omega),_,ld 3 (by omega),req_intro (by omega) ⟨ne 4 (by omega),_,ld 4 (by omega),req_intro (by omega) ⟨ne 5 (by omega),_,ld 5 (by omega),mr_,tot,xs,js,rfl,w5,hm,by omega,condC (fun g2=>?_) (fun g2=>condC (fun g3=>?_) (fun g3=>condC (fun g4=>?_) (fun g4=>?_)))⟩⟩⟩⟩⟩
   ·exact f0 _ rfl (if_neg (fun q=>by rw [q.1] at g2;cases g2))
   ·have g3:xs.any (isN (ns.getD 1 0) (ns.getD 2 0))=true:=g3
    exact f0 _ rfl (if_neg (fun q=>by rw [(ia _ _).1 q.2.1] at g3;cases g3))
   ·have g4:(m:Int)>=16:=by simpa using g4
    exact f0 _ rfl (if_neg (fun q=>by have q1:xs.length≠16:=q.2.2;omega))
   ·have g2:okR (ns.getD 1 0) (ns.getD 2 0) (ns.getD 3 0) (ns.getD 4 0) (ns.getD 5 0)=true:=by simpa using g2
    have g3:xs.any (isN (ns.getD 1 0) (ns.getD 2 0))=false:=g3
    have g4:m<16:=by simp at g4;omega
    rw [if_pos ⟨g2,(ia _ _).2 g3,by show xs.length≠16;omega⟩] at h2
    have eV:List.take (m*5) (List.take (m*5) (List.drop 0 (vR xs++js)))++[Value.int .i64 (ns.getD 1 0),Value.int .i64 (ns.getD 2 0),Value.int .i64 (ns.getD 3 0),Value.int .i64 (ns.getD 4 0),Value.int .i64 (ns.getD 5 0)]=vR (xs++[[ns.getD 1 0,ns.getD 2 0,ns.getD 3 0,ns.getD 4 0,ns.getD 5 0]]):=by
     rw [List.drop_zero,List.take_take,Nat.min_self,List.take_append_of_le_length (by omega),List.take_of_length_le (by omega)]
     unfold vR;simp
    refine ⟨by rw [List.length_append];omega,fun v hv=>?_,req_intro (by omega) fun c1 t1 q1 q2=>⟨?_,q2,q1,req_intro (by omega) fun c2 t2 q3 q4=>?_⟩⟩
    ·rcases List.mem_append.1 hv with hv|hv
     ·obtain ⟨z,_,rfl⟩:=List.mem_map.1 hv;rfl
     ·exact hj v hv
    ·show m*5<=((List.take (m*5) (List.drop 0 (vR xs++js))).map SV.raw).length
     rw [List.drop_zero,List.length_map,List.length_take,List.length_append];omega
    rw [eV]
    have k:=h2 _ _ (m+1) c2 t2 rfl (by simp [hm]) q3 q4
    refine condC (fun g5=>?_) (fun g5=>?_)
    ·have g5:ns.getD 1 0=me:=by simpa using g5
     rw [if_pos g5] at k
     exact hQ _ _ (cloK_intro [some 0,some 4] k (wkG mr_))
    ·have g5:¬ ns.getD 1 0=me:=by simpa using g5
     rw [if_neg g5] at k
     exact hQ _ _ (cloK_intro [some 0,some 4] k (wkG mr_))
  ·have g1:¬ ns.getD 0 0=1:=by simpa using g1
   exact condC (fun g=>absurd g (by decide)) (fun _=>condC (fun g=>absurd g (by decide)) (fun _=>f0 _ rfl (by rw [if_neg (fun q=>g1 q.2),if_neg (fun q=>by have:=q.1;omega),if_neg (fun q=>by have:=q.1;omega)])))
 ·have g6:ln≠6:=by intro e;subst e;exact absurd g6 (by decide)
  rw [if_neg (fun q=>g6 (by rw [← hn];exact q.1))] at f0 hF0 hF1 h1 h2
  refine condC (fun g3=>?_) (fun g3=>?_)
  ·have g3:ln=3:=by simp at g3;omega
   subst g3
   refine req_intro (by omega) ⟨ne 0 (by omega),_,ld 0 (by omega),condC (fun g1=>?_) (fun g1=>?_)⟩
   ·have g1:ns.getD 0 0=2:=by simpa using g1
    rw [if_pos ⟨hn,g1⟩] at f0 hF0 hF1 h1 h2
    refine req_intro (by omega) ⟨ne 1 (by omega),_,ld 1 (by omega),req_intro (by omega) ⟨ne 2 (by omega),_,ld 2 (by omega),tot,xs,js,rfl,w5,hm,by omega,req_intro (by omega) ⟨ne 1 (by omega),_,ld 1 (by omega),req_intro (by omega) ⟨ne 2 (by omega),_,ld 2 (by omega),tot,xs,js,rfl,w5,hm,by omega,fun k kcap ktot q1 q2 q3=>?_⟩⟩⟩⟩
    cases w:xs.any (isN (ns.getD 1 0) (ns.getD 2 0)) with
    | false=>
     have:=(ia _ _).2 w
     have k:=hF1 (xs.filter fun x=> !isN (ns.getD 1 0) (ns.getD 2 0) x) k kcap ktot (if_neg (by show ¬ 0<=idxR _ _ xs;omega))
     exact hQ _ _ (cloK_intro [some 0,some 1] k (wkG mr_))
    | true=>
     have w0:0<=idxR (ns.getD 1 0) (ns.getD 2 0) xs:=idx_any.2 w
     have ef:=erase_filter I' w0
     have k:=h2 (xs.filter fun x=> !isN (ns.getD 1 0) (ns.getD 2 0) x) cnt k kcap ktot (by rw [if_pos (show 0<=idxR _ _ xs from w0)];rw [show xs.eraseIdx _=_ from ef]) q1 q2 q3
     exact hQ _ _ (cloK_intro [some 0,some 1] k (wkG mr_))
   ·have g1:¬ ns.getD 0 0=2:=by simpa using g1
    exact condC (fun g=>absurd g (by decide)) (fun _=>f0 _ rfl (by rw [if_neg (fun q=>g1 q.2),if_neg (fun q=>by have:=q.1;omega)]))
  ·have g3:ln≠3:=by intro e;subst e;exact absurd g3 (by decide)
   rw [if_neg (fun q=>g3 (by rw [← hn];exact q.1))] at f0 hF0 hF1 h1 h2
   refine condC (fun g2=>?_) (fun g2=>?_)
   ·have g2:ln=2:=by simp at g2;omega
    subst g2
    refine req_intro (by omega) ⟨ne 0 (by omega),_,ld 0 (by omega),condC (fun g1=>?_) (fun g1=>?_)⟩
    ·have g1:ns.getD 0 0=3:=by simpa using g1
     refine req_intro (by omega) ⟨ne 1 (by omega),_,ld 1 (by omega),condC (fun g4=>req_intro (by omega) ⟨ne 1 (by omega),_,ld 1 (by omega),condC (fun g5=>?_) (fun g5=>?_)⟩) (fun g4=>?_)⟩
     ·have g4:1<=ns.getD 1 0:=by simpa using g4
      have g5:ns.getD 1 0<=1000000000:=by simpa using g5
      refine req_intro (by omega) ⟨ne 1 (by omega),_,ld 1 (by omega),?_⟩
      have k:=h1 _ (if_pos ⟨hn,g1,g4,g5⟩)
      exact hQ _ _ (cloK_intro [some 0] k (wkG mr_))
     ·have g5:¬ ns.getD 1 0<=1000000000:=by simpa using g5
      exact f0 _ rfl (if_neg (fun q=>g5 q.2.2.2))
     ·have g4:¬ 1<=ns.getD 1 0:=by simpa using g4
      exact f0 _ rfl (if_neg (fun q=>g4 q.2.2.1))
    ·have g1:¬ ns.getD 0 0=3:=by simpa using g1
     exact f0 _ rfl (if_neg (fun q=>g1 q.2.1))
   ·have g2:ln≠2:=by intro e;subst e;exact absurd g2 (by decide)
    exact f0 _ rfl (if_neg (fun q=>g2 (by rw [← hn];exact q.1)))
theorem apply2_sem {b cap:Nat} {lb:Option Addr} {ln lc:Nat} {ns:List Int} {K:KT} (hb:bx[b]? =some ⟨26,.vals (vR xs++js),tot,true⟩) (hl:SL (RK .i64 1) E lb ln lc (ns.map fun z=>[z])) (I':Inv me (xs,cnt)) (hm:xs.length=m) (hc:m<=cap/\cap*5<=tot) (hj:∀ v∈js,v.oneCell'=true)
  (a0:(appF me (xs,cnt) ns=none->K (.tup [L none 0 0,I 0,B false]) bx E)) (a1:(∀ (ys:List (List Int)) (k kcap ktot:Nat),appF me (xs,cnt) ns=none->K (.tup [.slc bx.length 0 k kcap,I cnt,B false]) (bx++[⟨26,.vals (vR ys),ktot,true⟩]) E)) (a2:(∀ c:Int,appF me (xs,cnt) ns=some (xs,c)->K (.tup [.slc b 0 m cap,I c,B true]) bx E)) (a3:(∀ (ys:List (List Int)) (c:Int) (k kcap ktot:Nat),appF me (xs,cnt) ns=some (ys,c)->ys.length=k->k<=kcap->kcap*5<=ktot->K (.tup [.slc bx.length 0 k kcap,I c,B true]) (bx++[⟨26,.vals (vR ys),ktot,true⟩]) E)):CallSem Tryz.prog 20 [.slc b 0 m cap,I cnt,I me,L lb ln lc] bx E K:=by
 refine CallSem.hand (σ:=[b]) (bxs:=[⟨26,.vals (vR xs++js),tot,true⟩]) ⟨by simp,rfl,fun i y hy=>?_⟩ (args':=[.slc 0 0 m cap,I cnt,I me,L lb ln lc]) ?_ (EntB.sem okR7 Tryz.func20 ⟨by kernel_rfl,by kernel_rfl⟩ (v20 hl I' hm hc hj ?_ ?_ ?_ ?_ (fun _ _ q=>q)))
 ·match i,hy with
  | 0,hy=>
   simp only [List.getElem?_cons_zero,Option.some.injEq] at hy;subst hy
   exact ⟨rfl,b,rfl,by simpa [Box.ren,Row.ren] using hb⟩
  | j+1,hy=>simp at hy
 ·simp only [SV.renL,SV.ren,renF,List.getElem?_cons_zero]
 ·intro q
  simp only [SV.ren,SV.renL,merge,setAll,List.take,List.drop,List.map,List.length_cons,List.length_nil,Box.ren,Row.ren,renF,List.getElem?_cons_zero,List.getElem?_cons_succ]
  rw [set_sameB hb]
  simpa using a0 q
 ·intro ys k kcap ktot q
  simp only [SV.ren,SV.renL,merge,setAll,List.take,List.drop,List.map,List.length_cons,List.length_nil,Box.ren,Row.ren,renF,List.getElem?_cons_zero,List.getElem?_cons_succ]
  rw [set_sameB hb]
  simpa [renF] using a1 ys k kcap ktot q
 ·intro c q
  simp only [SV.ren,SV.renL,merge,setAll,List.take,List.drop,List.map,List.length_cons,List.length_nil,Box.ren,Row.ren,renF,List.getElem?_cons_zero,List.getElem?_cons_succ]
  rw [set_sameB hb]
  simpa using a2 c q
 ·intro ys c k kcap ktot q q1 q2 q3
  simp only [SV.ren,SV.renL,merge,setAll,List.take,List.drop,List.map,List.length_cons,List.length_nil,Box.ren,Row.ren,renF,List.getElem?_cons_zero,List.getElem?_cons_succ]
  rw [set_sameB hb]
  simpa [renF] using a3 ys c k kcap ktot q q1 q2 q3
def tabA2:CallT:=fun f args bx E K=>match f with
 | 20=>d4 args fun x0 x1 x2 x3=>dI x1 fun cnt=>dI x2 fun me=>dS x3 fun lb ln lc=>(match x0 with | .slc b 0 m cap=>∃ (tot:Nat) (xs:List (List Int)) (js:List Value) (ns:List Int),bx[b]? =some ⟨26,.vals (vR xs++js),tot,true⟩/\SL (RK .i64 1) E lb ln lc (ns.map fun z=>[z])/\Inv me (xs,cnt)/\xs.length=m/\(m<=cap/\cap*5<=tot)/\(∀ v∈js,v.oneCell'=true)/\(appF me (xs,cnt) ns=none->K (.tup [L none 0 0,I 0,B false]) bx E)/\(∀ (ys:List (List Int)) (k kcap ktot:Nat),appF me (xs,cnt) ns=none->K (.tup [.slc bx.length 0 k kcap,I cnt,B false]) (bx++[⟨26,.vals (vR ys),ktot,true⟩]) E)/\(∀ c:Int,appF me (xs,cnt) ns=some (xs,c)->K (.tup [.slc b 0 m cap,I c,B true]) bx E)/\(∀ (ys:List (List Int)) (c:Int) (k kcap ktot:Nat),appF me (xs,cnt) ns=some (ys,c)->ys.length=k->k<=kcap->kcap*5<=ktot->K (.tup [.slc bx.length 0 k kcap,I c,B true]) (bx++[⟨26,.vals (vR ys),ktot,true⟩]) E)|_=>False)
 | _=>False
theorem tabA2_ok (f:FuncId) (args:List SV) (bx:List Box) (E:Mem) (K:KT) (h:tabA2 f args bx E K):CallSem Tryz.prog f args bx E K:=by
 unfold tabA2 at h
 split at h
 ·replace h:=d4_elim h
  obtain ⟨x0,x1,x2,x3,rfl,h⟩:=h
  replace h:=dI_elim h
  obtain ⟨cnt,rfl,h⟩:=h
  replace h:=dI_elim h
  obtain ⟨me,rfl,h⟩:=h
  replace h:=dS_elim h
  obtain ⟨lb,ln,lc,rfl,h⟩:=h
  split at h
  case h_2=>exact h.elim
  obtain ⟨tot,xs,js,ns,h1,h2,h3,h4,h5,h6,h7,h8,h9,h10⟩:=h
  exact apply2_sem h1 h2 h3 h4 h5 h6 h7 h8 h9 h10
 ·exact h.elim
noncomputable def tabz18:FuncId->List SV->Mem->(SV->Mem->Prop)->Prop:=fun f args E K=>match f with
 | 18=>d1 args fun x0=>dC x0 fun l1=>d2 l1 fun x0_0 x0_1=>dI x0_0 fun a1=>dS x0_1 fun b2 l3 c4=>∃ (zs:List Int),Bs E b2 l3 c4 zs/\(∀ (b':Option Addr) (l' c':Nat) (yss:List (List Int)) (e:Int) (E':Mem),Mem.le E E'->Hyp (readF a1 zs=(yss,e))->BL E' b' l' c' yss->K (.tup [L b' l' c',I e]) E')
 | 19=>d1 args fun x0=>dS x0 fun b1 l2 c3=>∃ (zs:List Int),Bs E b1 l2 c3 zs/\l2<=100000/\((∀ E':Mem,Mem.le E E'->Hyp (numsF zs=none)->K (.tup [L none 0 0,B false]) E')/\∀ (xs:List Int) (b':Option Addr) (l' c':Nat) (E':Mem),Mem.le E E'->Hyp (numsF zs=some xs)->SL (RK .i64 1) E' b' l' c' (xs.map fun z=>[z])->K (.tup [L b' l' c',B true]) E')
 | _=>False
theorem tabz18_ok:TabOK Tryz.prog tabz18:=by
 intro f args E K h
 unfold tabz18 at h
 split at h
 ·replace h:=d1_elim h
  obtain ⟨x0,rfl,h⟩:=h
  replace h:=dC_elim h
  obtain ⟨l1,hl1,h⟩:=h
  replace h:=d2_elim h
  obtain ⟨x0_0,x0_1,rfl,h⟩:=h
  replace h:=dI_elim h
  obtain ⟨a1,rfl,h⟩:=h
  replace h:=dS_elim h
  obtain ⟨b2,l3,c4,rfl,h⟩:=h
  obtain ⟨zs,g0,h⟩:=h
  exact TabSem.congr (valL_cons (asCells_val hl1) rfl) (Ent.sem okK7 Tryz.func18 ⟨by kernel_rfl,by kernel_rfl⟩ rfl (j16 g0 h))
 ·replace h:=d1_elim h
  obtain ⟨x0,rfl,h⟩:=h
  replace h:=dS_elim h
  obtain ⟨b1,l2,c3,rfl,h⟩:=h
  obtain ⟨zs,g0,g1,h⟩:=h
  exact TabSem.congr (valL_cons rfl rfl) (Ent.sem okR3 Tryz.func19 ⟨by kernel_rfl,by kernel_rfl⟩ rfl (zr19 g0 g1 h))
 ·exact h.elim
noncomputable def R8:Cx:={ P:=Tryz.prog,inl:=fun f=>List.contains [] f,tab:=tabz18,isB:=fun f=>f==20,tabB:=tabA2,opt:={ unroll:=0,carry:=[9,10,11] },muts:=mutsD }
theorem okR8:CxOK R8:=CxOK.four tabz18_ok (by kernel_rfl) (okInl (by kernel_rfl)) tabA2_ok
def vs6 (me cnt:Int) (b:Option Addr) (l c i m cap tot:Nat) (xs:List (List Int)) (js:List Value) (E:Mem):St:=⟨[none,oI me]++nn 5++[oL b l c,none,os 0 0 m cap,oI cnt,oI (i:Nat)]++nn 50,[⟨26,.vals (vR xs++js),tot,true⟩],E⟩
theorem vr6 {cap:Nat} (hB:BL E b l c ls) (hl:l<=100000/\∀ d∈ls,d.length<65536) (hi:i<=l)
  (hx:xs.length=m) (hc:m<=cap/\cap*5<=tot) (hj:∀ v∈js,v.oneCell'=true) (hm:0<=a1/\a1<=59) (hr:readF s zs=(ls,0)) (hf:foldF a1 (ls.take i) ([],0)=some (xs,cnt)) (hE0:Mem.le E0 E)
  (hE:∀ (e:Int) (E':Mem),Mem.le E0 E'->heldF a1 s zs=(([],0),e)->e≠0->KK (.tup [L none 0 0,I 0,I e]) [] E') (hS:∀ (xs:List (List Int)) (cnt:Int) (m cap tot:Nat) (js:List Value) (E':Mem),Mem.le E0 E'->heldF a1 s zs=((xs,cnt),0)->xs.length=m->m<=cap/\cap*5<=tot->(∀ v∈js,v.oneCell'=true)->KK (.tup [.slc 0 0 m cap,I cnt,I 0]) [⟨26,.vals (vR xs++js),tot,true⟩] E') (hQ:∀ s bx' E',cloK 0 KK s bx' E'->Q s bx' E')
  (ih:i<l->∀ (xs:List (List Int)) (cnt:Int) (m cap tot:Nat) (js:List Value) (E':Mem),Mem.le E E'->xs.length=m->m<=cap/\cap*5<=tot->(∀ v∈js,v.oneCell'=true)->foldF a1 (ls.take (i+1)) ([],0)=some (xs,cnt)->Lp R8 8 Tryz.f6 [1,1,1,1,1,1,0,1,0] 0 Q (vs6 a1 cnt b l c (i+1) m cap tot xs js E')):Rnd R8 8 Tryz.f6 [1,1,1,1,1,1,0,1,0] 0 Q (vs6 a1 cnt b l c i m cap tot xs js E):=by
 refine sm_ (?_:bif decide ((NI i)<(NI l)) then req (0<=(NI i)/\(NI i)<(NI l)) (nE E b l c/\∃ (base:Option Addr),∃ (len:Nat),∃ (cap_1:Nat),LoadE R8.P E 22 (VS b l c) (Int.toNat (NI i)*1) (L base len cap_1)/\∃ (zs:List Int),Bs E base len cap_1 zs/\len<=100000/\(∀ (E':Mem),Mem.le E E'->Hyp (numsF zs=none)->Mem.le E E'/\Q (SV.tup [L none 0 0,I 0,I 9]) [⟨26,.vals (vR xs++js),tot,true⟩] E')/\∀ (xs_1:List Int) (b':Option Addr) (l' c':Nat) (E':Mem),Mem.le E E'->Hyp (numsF zs=some xs_1)->SL (RK IntKind.i64 1) E' b' l' c' (List.map (fun (z:Int)=>[z]) xs_1)->Mem.le E E'/\∃ (tot_1:Nat),∃ (xs_2:List (List Int)),∃ (js_1:List Value),∃ (ns:List Int),some (⟨26,.vals (vR xs++js),tot,true⟩:Box)=some (⟨26,.vals (vR xs_2++js_1),tot_1,true⟩:Box)/\SL (RK IntKind.i64 1) E' b' l' c' (List.map (fun (z:Int)=>[z]) ns)/\Inv a1 (xs_2,cnt)/\List.length xs_2=m/\(m<=cap/\cap*5<=tot_1)/\(∀ (v:Value),List.Mem v js_1->Value.oneCell' v=true)/\(appF a1 (xs_2,cnt) ns=none->Q (SV.tup [L none 0 0,I 0,I 9]) [⟨26,.vals (vR xs++js),tot,true⟩] E')/\(∀ (ys:List (List Int)) (k kcap ktot:Nat),appF a1 (xs_2,cnt) ns=none->Q (SV.tup [L none 0 0,I 0,I 9]) [⟨26,.vals (vR xs++js),tot,true⟩,⟨26,.vals (vR ys),ktot,true⟩] E')/\(∀ (c_1:Int),appF a1 (xs_2,cnt) ns=some (xs_2,c_1)->Lp R8 8 Tryz.f6 [1,1,1,1,1,1,0,1,0] 0 Q { fr:=none::oI a1::none::none::none::none::none::oL b l c::none::os 0 0 m cap::oI c_1::oI (WI ((NI i)+1))::no32 (no16 (no2 [])),bx:=[(⟨26,.vals (vR xs++js),tot,true⟩:Box)],E:=E':St })/\∀ (ys:List (List Int)) (c_1:Int) (k kcap ktot:Nat),appF a1 (xs_2,cnt) ns=some (ys,c_1)->List.length ys=k->k<=kcap->kcap*5<=ktot->Lp R8 8 Tryz.f6 [1,1,1,1,1,1,0,1,0] 0 Q { fr:=none::oI a1::none::none::none::none::none::oL b l c::none::os 1 0 k kcap::oI c_1::oI (WI ((NI i)+1))::no32 (no16 (no2 [])),bx:=[(⟨26,.vals (vR xs++js),tot,true⟩:Box),⟨26,.vals (vR ys),ktot,true⟩],E:=E':St }) else Q (SV.tup [SV.slc 0 0 m cap,I cnt,I 0]) [⟨26,.vals (vR xs++js),tot,true⟩] E)
 delta WI NI VS no2 no16 no32
 have bad:foldF a1 (ls.take (i+1)) ([],0)=none->∀ (bx:List Box) (E1:Mem),Mem.le E E1->Q (.tup [L none 0 0,I 0,I 9]) bx E1:=fun q bx E1 k=>hQ _ _ _ (cloK_intro [] (hE 9 E1 (mt_ hE0 k) (held_bad hm hr (fold_bad q)) (by decide)) (wkG mr_))
 have nl:=hB.len
 have I':Inv a1 (xs,cnt):=(Inv.nil a1).fold hf
 refine condC (fun g=>?_) (fun g=>?_)
 ·have g:i<l:=by simpa using g
  obtain ⟨d,hd⟩:∃ d,ls[i]? =some d:=⟨_,List.getElem?_eq_getElem (by omega)⟩
  obtain ⟨x1,b2,l2,c2,x2,x3⟩:=hB.load hd
  have dl:=hl.2 d (List.mem_of_getElem? hd)
  have st:foldF a1 (ls.take (i+1)) ([],0)=(match numsF d with |none=>none|some n=>appF a1 (xs,cnt) n):=by
   rw [take_get' hd,foldF_app,hf]
   simp only [Option.bind_some,foldF]
   cases q:numsF d with
   | none=>rfl
   | some n=>
    dsimp only
    cases q2:appF a1 (xs,cnt) n<;>rfl
  rw [wrap_i64 (x:=(i:Int)+1) (by omega)]
  refine req_intro (by omega) ⟨x1,b2,l2,c2,x2,d,x3,by have:=x3.2.1;omega,fun E1 k1 q=>⟨k1,bad (by rw [st,show numsF d=none from q]) _ _ k1⟩,fun ns b3 l3 c3 E1 k1 q hI=>⟨k1,tot,xs,js,ns,rfl,hI,I',hx,hc,hj,fun q2=>bad (by rw [st,show numsF d=some ns from q];exact q2) _ _ k1,fun ys k kcap ktot q2=>bad (by rw [st,show numsF d=some ns from q];exact q2) _ _ k1,fun c2' q2=>?_,fun ys c2' k kcap ktot q2 q3 q4 q5=>?_⟩⟩
  ·exact Lp_re [some 0] (ih g xs c2' m cap tot js E1 k1 hx hc hj (by rw [st,show numsF d=some ns from q];exact q2)) (wkG mr_)
  ·rw [← List.append_nil (vR ys)]
   exact Lp_re [some 1] (ih g ys c2' k kcap ktot [] E1 k1 q3 ⟨q4,q5⟩ (fun v hv=>nomatch hv) (by rw [st,show numsF d=some ns from q];exact q2)) (wkG mr_)
 ·have g:¬ i<l:=by simpa using g
  rw [List.take_of_length_le (by omega)] at hf
  exact hQ _ _ _ (cloK_intro [some 0] (hS xs cnt m cap tot js E hE0 (held_of hm hr hf) hx hc hj) (wkG mr_))
theorem vl6 {E:Mem} {a1 cnt s:Int} {zs:List Int} {b:Option Addr} {l c m cap tot:Nat} {xs:List (List Int)} {js:List Value} {ls:List (List Int)} {KK Q:KT} {E0:Mem} (hB:BL E b l c ls) (hl:l<=100000/\∀ d∈ls,d.length<65536) (hm:0<=a1/\a1<=59) (hr:readF s zs=(ls,0)) (hE0:Mem.le E0 E)
  (hE:∀ (e:Int) (E':Mem),Mem.le E0 E'->heldF a1 s zs=(([],0),e)->e≠0->KK (.tup [L none 0 0,I 0,I e]) [] E') (hS:∀ (xs:List (List Int)) (cnt:Int) (m cap tot:Nat) (js:List Value) (E':Mem),Mem.le E0 E'->heldF a1 s zs=((xs,cnt),0)->xs.length=m->m<=cap/\cap*5<=tot->(∀ v∈js,v.oneCell'=true)->KK (.tup [.slc 0 0 m cap,I cnt,I 0]) [⟨26,.vals (vR xs++js),tot,true⟩] E') (hQ:∀ s bx' E',cloK 0 KK s bx' E'->Q s bx' E'):∀ {r i:Nat},i+r=l->xs.length=m->m<=cap/\cap*5<=tot->(∀ v∈js,v.oneCell'=true)->foldF a1 (ls.take i) ([],0)=some (xs,cnt)->Lp R8 8 Tryz.f6 [1,1,1,1,1,1,0,1,0] 0 Q (vs6 a1 cnt b l c i m cap tot xs js E)
 | 0,i,hi,hx,hc,hj,hf=>Lp_ind (ι:=Unit) okR8 (fun _=>vs6 a1 cnt b l c i m cap tot xs js E) (fun _=>0) (fun _ _=>vr6 hB hl (by omega) hx hc hj hm hr hf hE0 hE hS hQ (fun g=>by omega)) ()
 | r+1,i,hi,hx,hc,hj,hf=>Lp_ind (ι:=Unit) okR8 (fun _=>vs6 a1 cnt b l c i m cap tot xs js E) (fun _=>0) (fun _ _=>vr6 hB hl (by omega) hx hc hj hm hr hf hE0 hE hS hQ (fun g xs cnt m cap tot js E1 k hx hc hj hf=>vl6 (hB.mono RB_ok k) hl hm hr (mt_ hE0 k) hE hS hQ (r:=r) (i:=i+1) (by omega) hx hc hj hf)) ()
theorem v6 (hB:Bs E b l c zs) (hE:∀ (e:Int) (E':Mem),Mem.le E E'->heldF a1 s zs=(([],0),e)->e≠0->KK (.tup [L none 0 0,I 0,I e]) [] E') (hS:∀ (xs:List (List Int)) (cnt:Int) (m cap tot:Nat) (js:List Value) (E':Mem),Mem.le E E'->heldF a1 s zs=((xs,cnt),0)->xs.length=m->m<=cap/\cap*5<=tot->(∀ v∈js,v.oneCell'=true)->KK (.tup [.slc 0 0 m cap,I cnt,I 0]) [⟨26,.vals (vR xs++js),tot,true⟩] E') (hQ:∀ s bx' E',cloK 0 KK s bx' E'->Q s bx' E'):
  EntB R8 8 Tryz.f6 [.agg [I s,L b l c],I a1] [] E Q:=by
 refine sm_ (?_:bif decide (a1<(0:Int)) then Q (SV.tup [L none 0 0,I 0,I 1]) [⟨24,.lst [I s,L b l c],2,true⟩] E else bif bif false then true else decide (a1>(59:Int)) then Q (SV.tup [L none 0 0,I 0,I 1]) [⟨24,.lst [I s,L b l c],2,true⟩] E else ∃ (zs:List Int),Bs E b l c zs/\∀ (b':Option Addr) (l' c':Nat) (yss:List (List Int)) (e:Int) (E':Mem),Mem.le E E'->Hyp (((openF s zs).fst.fst,(openF s zs).snd)=(yss,e))->BL E' b' l' c' yss->Mem.le E E'/\bif e !=(0:Int) then Q (SV.tup [L none 0 0,I 0,I e]) [⟨24,.lst [I s,L b l c],2,true⟩] E' else Lp R8 8 Tryz.f6 [1,1,1,1,1,1,0,1,0] 0 Q { fr:=some (SV.agg [I s,L b l c])::oI a1::oc 0 0::none::none::none::none::oL b' l' c'::oI e::oL none 0 0::oI 0::oI 0::none::none::none::none::none::oI a1::oB (decide (a1<(0:Int)))::oB false::oI a1::oB (decide (a1>(59:Int)))::oB (bif false then true else decide (a1>(59:Int)))::some (SV.tup [L b' l' c',I e])::some (SV.agg [I s,L b l c])::some (SV.tup [L b' l' c',I e])::oL b' l' c'::oI e::oI e::oB (e !=(0:Int))::no32 [],bx:=[(⟨24,.lst [I s,L b l c],2,true⟩:Box)],E:=E':St })
 delta no32
 have bz:=hB.2.2.2.1
 have bad:¬ (0<=a1/\a1<=59)->∀ bx:List Box,Q (.tup [L none 0 0,I 0,I 1]) bx E:=fun q bx=>hQ _ _ _ (cloK_intro [] (hE 1 E mr_ (by unfold heldF;rw [if_neg q]) (by decide)) (wkG mr_))
 refine condC (fun g=>bad (fun q=>by simp at g;omega) _) (fun g=>condC (fun g2=>bad (fun q=>by simp at g2;omega) _) (fun g2=>?_))
 have hm:0<=a1/\a1<=59:=by simp at g g2;omega
 refine ⟨zs,hB,fun b' l' c' yss e E1 k1 r1 B1=>⟨k1,?_⟩⟩
 have r1:readF s zs=(yss,e):=r1
 refine condC (fun q=>?_) (fun q=>?_)
 ·have q:e≠0:=by simpa using q
  exact hQ _ _ _ (cloK_intro [] (hE e E1 k1 (by unfold heldF;rw [if_pos hm,r1,if_neg q]) q) (wkG mr_))
 ·have q:e=0:=by simpa using q
  subst q
  have rs:=read_size (s:=s) bz
  have e1:(openF s zs).1.1=yss:=(eq2 r1).1
  rw [e1] at rs
  have nl:=B1.len
  exact Lp_re [none] (vl6 (xs:=[]) (js:=[]) (m:=0) (cap:=0) (tot:=0) B1 ⟨by omega,fun d hd=>(rs.2 d hd).1⟩ hm r1 k1 hE hS hQ (r:=l') (i:=0) (by omega) rfl ⟨by decide,by decide⟩ (fun v hv=>nomatch hv) rfl) (wkG mr_)
end Go.Proofs.YtdaakdbkmjgloaaGreat.CustodyOwn
