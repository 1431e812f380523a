/- Proof of the statement DangerHalting: part 8 of 9, what it computes and why that answers true. -/
import Derived.Test.YtkjlcbfjllpcnaaGreatKDH7
set_option linter.unusedVariables false
set_option linter.unusedSimpArgs false
namespace Go.Proofs.YtkjlcbfjllpcnaaGreat.X
open Go.RowKit Go.Lib Go.Sort YtkjlcbfjllpcnaaGreatW.PrintWords YtkjlcbfjllpcnaaGreatW.PrintLast YtkjlcbfjllpcnaaGreatW.PrintMore
theorem ltS_irrefl (x:Int):¬ ltS x x:=by unfold ltS;omega
theorem ltS_trans {x y z:Int} (h:ltS x y) (k:ltS y z):ltS x z:=by unfold ltS at *;omega
theorem ltS_tri {x y:Int} (h:¬ ltS x y) (k:x ≠ y):ltS y x:=by unfold ltS at *;omega
theorem sorted_ext {l m:List Int} (hl:l.Pairwise ltS) (hm:m.Pairwise ltS) (h:∀ x,x∈l ↔ x∈m):l=m:=by
 have hne:∀ {a b:Int},ltS a b→a ≠ b:=fun {a b} h e=>ltS_irrefl a (by rw [← e] at h;exact h)
 have hp:l.Perm m:=(List.perm_ext_iff_of_nodup (List.Pairwise.imp hne hl) (List.Pairwise.imp hne hm)).2 h
 exact List.Perm.eq_of_pairwise (le:=ltS) (fun a b _ _ h k=>absurd (ltS_trans h k) (ltS_irrefl a)) hl hm hp
def Mini (l:List Int) (x:Int):Prop:=x∈l∧vld x=true∧∀ y∈l,vld y=true→Sub y.toNat x.toNat→y=x
theorem vld_cast {x:Int} (h:vld x=true):∃ n:Nat,x=(n:Int)∧n < 1024:=by
 rw [vld_iff] at h
 exact ⟨x.toNat,by omega,by omega⟩
theorem sub_v {x y:Int} (hx:vld x=true) (hy:vld y=true):sub x y=true ↔ Sub x.toNat y.toNat:=by
 obtain ⟨a,rfl,ha⟩:=vld_cast hx
 obtain ⟨b,rfl,hb⟩:=vld_cast hy
 rw [sub_nat ha hb,Int.toNat_natCast,Int.toNat_natCast]
theorem pcn_sub {a b:Nat} (hb:b < 1024) (h:Sub a b) (hne:a ≠ b):pcn a < pcn b:=by
 have hex:∃ i,i < 10∧b.testBit i=true∧a.testBit i=false:=by
  apply Classical.byContradiction
  intro hn
  refine hne (Sub.eq h fun i hi=>?_)
  cases ha:a.testBit i
  ·refine absurd ⟨i,?_,hi,ha⟩ hn
   rcases Nat.lt_or_ge i 10 with h|h
   ·exact h
   ·rw [bit_lt (n:=10) hb h] at hi;cases hi
  ·rfl
 obtain ⟨i,h10,hbi,hai⟩:=hex
 refine Nat.lt_of_lt_of_le (pcn_lt h10 hai) ?_
 unfold pcn
 refine List.countP_mono_left fun k _ hk=>?_
 exact (Sub.or h (Sub.two hbi)) k hk
theorem ltS_of_sub {x y:Int} (hx:vld x=true) (hy:vld y=true) (h:Sub x.toNat y.toNat) (hne:x ≠ y):ltS x y:=by
 obtain ⟨a,rfl,ha⟩:=vld_cast hx
 obtain ⟨b,rfl,hb⟩:=vld_cast hy
 rw [Int.toNat_natCast,Int.toNat_natCast] at h
 have:=pcn_sub hb h (by omega)
 left
 unfold rank size
 rw [vld_nat ha,vld_nat hb]
 simp only [if_true,Int.toNat_natCast]
 omega
theorem leastFold_spec (l:List Int) (hv:∀ x∈l,vld x=true) (hs:l.Pairwise leS):(leastFold l).Pairwise ltS∧∀ x,x∈leastFold l ↔ Mini l x:=by
 have key:∀ (rest pre out:List Int),l=pre++rest→out.Pairwise ltS→(∀ x∈out,x∈pre∧Mini l x)→(∀ x∈pre,∃ t∈out,Sub t.toNat x.toNat) →
   (rest.foldl leastStep out).Pairwise ltS∧∀ x,x∈rest.foldl leastStep out ↔ Mini l x:=by
  intro rest
  induction rest with
  | nil =>
   intro pre out e h1 h2 h3
   rw [List.append_nil] at e
   subst e
   refine ⟨h1,fun x=>⟨fun h=>(h2 x h).2,fun h=>?_⟩⟩
   obtain ⟨t,ht,hts⟩:=h3 x h.1
   have:=h.2.2 t (h2 t ht).1 (h2 t ht).2.2.1 hts
   rw [← this];exact ht
  | cons y ys ih =>
   intro pre out e h1 h2 h3
   rw [List.foldl_cons]
   have hy:y∈l:=by rw [e];simp
   have hvy:=hv y hy
   by_cases ha:(out.any fun t=>sub t y)=true
   ·rw [leastStep,if_pos ha]
    obtain ⟨t,ht,hts⟩:=List.any_eq_true.1 ha
    refine ih (pre++[y]) out (by rw [e];simp) h1 (fun x hx=>⟨by simp [(h2 x hx).1],(h2 x hx).2⟩) fun x hx=>?_
    rcases List.mem_append.1 hx with h|h
    ·exact h3 x h
    ·rw [List.mem_singleton.1 h]
     exact ⟨t,ht,(sub_v (h2 t ht).2.2.1 hvy).1 hts⟩
   ·rw [leastStep,if_neg ha]
    have hno:∀ t∈out,¬ Sub t.toNat y.toNat:=fun t ht hh=>ha (List.any_eq_true.2 ⟨t,ht,(sub_v (h2 t ht).2.2.1 hvy).2 hh⟩)
    have hpy:∀ x∈pre,leS x y:=by
     intro x hx
     rw [e,List.pairwise_append] at hs
     exact hs.2.2 x hx y (by simp)
    have hmin:Mini l y:=by
     refine ⟨hy,hvy,fun z hz hvz hzy=>?_⟩
     apply Classical.byContradiction
     intro hne
     have hlt:=ltS_of_sub hvz hvy hzy hne
     have hzp:z∈pre:=by
      rw [e] at hz
      rcases List.mem_append.1 hz with h|h
      ·exact h
      ·rcases List.mem_cons.1 h with h|h
       ·exact absurd h hne
       ·rw [e,List.pairwise_append,List.pairwise_cons] at hs
        exact absurd hlt (hs.2.1.1 z h)
     obtain ⟨t,ht,hts⟩:=h3 z hzp
     exact hno t ht (hts.trans hzy)
    refine ih (pre++[y]) (out++[y]) (by rw [e];simp) ?_ ?_ ?_
    ·rw [List.pairwise_append]
     refine ⟨h1,by simp,fun a ha b hb=>?_⟩
     rw [List.mem_singleton.1 hb]
     refine ltS_tri (hpy a (h2 a ha).1) fun hh=>?_
     exact hno a ha (by rw [hh];exact Sub.refl _)
    ·intro x hx
     rcases List.mem_append.1 hx with h|h
     ·exact ⟨by simp [(h2 x h).1],(h2 x h).2⟩
     ·rw [List.mem_singleton.1 h];exact ⟨by simp,hmin⟩
    ·intro x hx
     rcases List.mem_append.1 hx with h|h
     ·obtain ⟨t,ht,hts⟩:=h3 x h
      exact ⟨t,by simp [ht],hts⟩
     ·rw [List.mem_singleton.1 h];exact ⟨y,by simp,Sub.refl _⟩
 exact key l [] [] rfl List.Pairwise.nil (by simp) (by simp)
theorem leastS_spec (l:List Int):(leastS l).Pairwise ltS∧∀ x,x∈leastS l ↔ Mini l x:=by
 have hm:∀ x,x∈sortS (l.filter vld) ↔ x∈l∧vld x=true:=fun x=>by rw [(sortS_perm _).mem_iff,List.mem_filter]
 have:=leastFold_spec (sortS (l.filter vld)) (fun x hx=>((hm x).1 hx).2) (sortS_sorted _)
 refine ⟨this.1,fun x=>(this.2 x).trans ?_⟩
 unfold Mini
 rw [hm]
 constructor
 ·rintro ⟨⟨h1,h2⟩,h3,h4⟩
  exact ⟨h1,h2,fun y hy hv=>h4 y ((hm y).2 ⟨hy,hv⟩) hv⟩
 ·rintro ⟨h1,h2,h3⟩
  exact ⟨⟨h1,h2⟩,h2,fun y hy hv=>h3 y ((hm y).1 hy).1 hv⟩
theorem refOk_iff {l:List Int} {x:Int} (hx:x∈l):refOk l x=true ↔ Mini l x:=by
 unfold refOk Mini
 rw [Bool.and_eq_true,List.all_eq_true]
 constructor
 ·rintro ⟨h1,h2⟩
  refine ⟨hx,h1,fun y hy hv hs=>?_⟩
  have:=h2 y hy
  obtain ⟨a,rfl,ha⟩:=vld_cast h1
  obtain ⟨b,rfl,hb⟩:=vld_cast hv
  rw [Int.toNat_natCast,Int.toNat_natCast] at hs
  rw [hv,and_nat' hb ha,sub_and.2 hs] at this
  simpa using this
 ·rintro ⟨_,h1,h2⟩
  refine ⟨h1,fun y hy=>?_⟩
  cases hv:vld y
  ·rfl
  ·by_cases hne:y=x
   ·simp [hne]
   ·have:¬ Go.bits .and .i64 y x=y:=by
     intro hh
     refine hne (h2 y hy hv ?_)
     obtain ⟨a,rfl,ha⟩:=vld_cast h1
     obtain ⟨b,rfl,hb⟩:=vld_cast hv
     rw [and_nat' hb ha] at hh
     rw [Int.toNat_natCast,Int.toNat_natCast]
     exact sub_and.1 (by omega)
    simp [this]
theorem refPos_none (x:Int):∀ (l:List Int) (i k:Nat),(∀ y∈l,¬ ltS y x)→refPos x i k l=k
 | [],i,k,_=>by rw [refPos]
 | y :: ys,i,k,h=>by
  rw [refPos,if_neg (h y (by simp))]
  exact refPos_none x ys (i+1) k fun z hz=>h z (by simp [hz])
theorem refPos_split (x:Int) (B:List Int) (hB:∀ y∈B,¬ ltS y x):∀ (A:List Int) (i:Nat),(∀ y∈A,ltS y x)→refPos x i i (A++B)=i+A.length
 | [],i,_=>by rw [List.nil_append,refPos_none x B i i hB];rfl
 | y :: ys,i,h=>by
  rw [List.cons_append,refPos,if_pos (h y (by simp)),refPos_split x B hB ys (i+1) fun z hz=>h z (by simp [hz]),List.length_cons]
  omega
theorem sorted_split (x:Int):∀ (l:List Int),l.Pairwise ltS→∃ A B,l=A++B∧(∀ y∈A,ltS y x)∧∀ y∈B,¬ ltS y x
 | [],_=>⟨[],[],rfl,by simp,by simp⟩
 | y :: ys,h=>by
  rw [List.pairwise_cons] at h
  by_cases hy:ltS y x
  ·obtain ⟨A,B,e,h1,h2⟩:=sorted_split x ys h.2
   refine ⟨y :: A,B,by rw [e];rfl,fun z hz=>?_,h2⟩
   rcases List.mem_cons.1 hz with rfl|hz
   ·exact hy
   ·exact h1 z hz
  ·refine ⟨[],y :: ys,rfl,by simp,fun z hz=>?_⟩
   rcases List.mem_cons.1 hz with rfl|hz
   ·exact hy
   ·exact fun hh=>hy (ltS_trans (h.1 z hz) hh)
theorem refIns_spec {out:List Int} (h:out.Pairwise ltS) (x:Int):(refIns out x).Pairwise ltS∧∀ y,y∈refIns out x ↔ y=x ∨ y∈out:=by
 unfold refIns
 split
 ·rename_i hx
  exact ⟨h,fun y=>⟨Or.inr,fun hy=>hy.elim (fun e=>e ▸ hx) id⟩⟩
 ·rename_i hx
  obtain ⟨A,B,e,hA,hB⟩:=sorted_split x out h
  have hp:=refPos_split x B hB A 0 hA
  rw [Nat.zero_add] at hp
  rw [e] at h hx ⊢
  rw [hp,List.take_left,List.drop_left]
  rw [List.pairwise_append] at h
  have hxB:∀ y∈B,ltS x y:=fun y hy=>ltS_tri (hB y hy) fun hh=>hx (by rw [← hh];simp [hy])
  refine ⟨?_,fun y=>by
   simp only [List.mem_append,List.mem_cons]
   constructor
   ·rintro (h|h|h)
    ·exact Or.inr (Or.inl h)
    ·exact Or.inl h
    ·exact Or.inr (Or.inr h)
   ·rintro (h|h|h)
    ·exact Or.inr (Or.inl h)
    ·exact Or.inl h
    ·exact Or.inr (Or.inr h)⟩
  rw [List.pairwise_append,List.pairwise_cons]
  refine ⟨h.1,⟨hxB,h.2.1⟩,fun a ha b hb=>?_⟩
  rcases List.mem_cons.1 hb with rfl|hb
  ·exact hA a ha
  ·exact h.2.2 a ha b hb
theorem refLeast_spec (l:List Int):(refLeast l).Pairwise ltS∧∀ x,x∈refLeast l ↔ Mini l x:=by
 have key:∀ (rest pre out:List Int),l=pre++rest→out.Pairwise ltS→(∀ x,x∈out ↔ x∈pre∧Mini l x) →
   (rest.foldl (refStep l) out).Pairwise ltS∧∀ x,x∈rest.foldl (refStep l) out ↔ Mini l x:=by
  intro rest
  induction rest with
  | nil =>
   intro pre out e h1 h2
   rw [List.append_nil] at e
   subst e
   exact ⟨h1,fun x=>(h2 x).trans ⟨fun h=>h.2,fun h=>⟨h.1,h⟩⟩⟩
  | cons y ys ih =>
   intro pre out e h1 h2
   rw [List.foldl_cons]
   have hy:y∈l:=by rw [e];simp
   by_cases hk:refOk l y=true
   ·rw [refStep,if_pos hk]
    have hm:=(refOk_iff hy).1 hk
    have hi:=refIns_spec h1 y
    refine ih (pre++[y]) _ (by rw [e];simp) hi.1 fun x=>?_
    rw [hi.2,h2,List.mem_append,List.mem_singleton]
    constructor
    ·rintro (rfl|h)
     ·exact ⟨Or.inr rfl,hm⟩
     ·exact ⟨Or.inl h.1,h.2⟩
    ·rintro ⟨h|h,h'⟩
     ·exact Or.inr ⟨h,h'⟩
     ·exact Or.inl h
   ·rw [refStep,if_neg hk]
    refine ih (pre++[y]) out (by rw [e];simp) h1 fun x=>?_
    rw [h2,List.mem_append,List.mem_singleton]
    constructor
    ·rintro ⟨h,h'⟩
     exact ⟨Or.inl h,h'⟩
    ·rintro ⟨h|h,h'⟩
     ·exact ⟨h,h'⟩
     ·subst h;exact absurd ((refOk_iff hy).2 h') hk
 exact key l [] [] rfl List.Pairwise.nil (by simp)
theorem refLeast_eq (l:List Int):refLeast l=leastS l :=
 sorted_ext (refLeast_spec l).1 (leastS_spec l).1 fun x=>((refLeast_spec l).2 x).trans ((leastS_spec l).2 x).symm
end Go.Proofs.YtkjlcbfjllpcnaaGreat.X
namespace Go.Proofs.YtkjlcbfjllpcnaaGreat.X
open Go.RowKit YtkjlcbfjllpcnaaGreatW.PrintWords YtkjlcbfjllpcnaaGreatW.PrintLast YtkjlcbfjllpcnaaGreatW.PrintMore
def unh (c:List S92) (x:Nat):Option Int:=(nodesL x).find? fun j=>!(sat x (c.getD j.toNat z92).f1)
theorem bit10 {x i:Nat} (hx:x < 1024) (hi:x.testBit i=true):i < 10:=by
 rcases Nat.lt_or_ge i 10 with h|h
 ·exact h
 ·rw [bit_lt (n:=10) hx h] at hi;cases hi
theorem unh_none {c:List S92} {x:Nat} (hx:x < 1024):unh c x=none ↔ ∀ i,x.testBit i=true→sat x (c.getD i z92).f1=true:=by
 unfold unh
 rw [List.find?_eq_none]
 constructor
 ·intro h i hi
  have:=h (i:Int) (nodesL_mem.2 (inS_iff.2 ⟨i,rfl,bit10 hx hi,hi⟩))
  rw [Int.toNat_natCast] at this
  simpa using this
 ·intro h j hj
  obtain ⟨i,rfl,h10,hi⟩:=inS_iff.1 (nodesL_mem.1 hj)
  rw [Int.toNat_natCast,h i hi]
  simp
theorem unh_some {c:List S92} {x:Nat} {j:Int} (h:unh c x=some j):∃ i:Nat,j=(i:Int)∧i < 10∧x.testBit i=true∧sat x (c.getD i z92).f1=false:=by
 have h1:=List.find?_some h
 have h2:=List.mem_of_find?_eq_some h
 obtain ⟨i,rfl,h10,hi⟩:=inS_iff.1 (nodesL_mem.1 h2)
 rw [Int.toNat_natCast] at h1
 exact ⟨i,rfl,h10,hi,by simpa using h1⟩
def grtF (c:List S92):Nat→Nat→Nat
 | 0,x=>x
 | n+1,x=>match unh c x with
  | none=>x
  | some j=>grtF c n (dif x (2 ^ j.toNat))
def elimF (c:List S92):Nat→Nat→List Int
 | 0,x=>[]
 | n+1,x=>match unh c x with
  | none=>[]
  | some j=>j :: elimF c n (dif x (2 ^ j.toNat))
def grt (c:List S92) (x:Nat):Nat:=grtF c 11 (x &&& decl c)
theorem pcn_dif {x i:Nat} (h10:i < 10) (h:x.testBit i=true):pcn (dif x (2 ^ i)) < pcn x:=by
 have h1:(dif x (2 ^ i)).testBit i=false:=by rw [dif_bit,two_bit];simp
 have h2:=pcn_lt h10 h1
 have h3:dif x (2 ^ i) ||| 2 ^ i=x:=eq_bits fun j=>by
  rw [or_bit,dif_bit,two_bit]
  by_cases e:i=j
  ·subst e;simp [h]
  ·simp [e]
 rwa [h3] at h2
theorem dif_sub' (a b:Nat):Sub (dif a b) a:=fun i hi=>by rw [dif_bit,Bool.and_eq_true] at hi;exact hi.1
theorem Sub.lt {a b:Nat} (h:Sub a b) (hb:b < 1024):a < 1024:=lt_of_bits (n:=10) fun i hi=>by
 cases ha:a.testBit i
 ·rfl
 ·rw [← h i ha];exact bit_lt hb hi
theorem Sub.le {a b:Nat} (h:Sub a b):a≤b:=by
 rw [← sub_and.2 h];exact Nat.and_le_right
theorem quo_sat {c:List S92} {q i:Nat} (hq:q < 1024) (h:quo c q=true) (hi:q.testBit i=true):sat q (c.getD i z92).f1=true:=((quo_iff hq).1 h).2.2 i hi
theorem grtF_spec {c:List S92}:∀ n x,x < 1024→pcn x < n →
  unh c (grtF c n x)=none∧Sub (grtF c n x) x∧(∀ q,q < 1024→quo c q=true→Sub q x→Sub q (grtF c n x))
 | 0,x,_,h=>absurd h (by omega)
 | n+1,x,hx,h=>by
  rw [grtF]
  cases hu:unh c x with
  | none=>exact ⟨hu,Sub.refl _,fun q _ _ h=>h⟩
  | some j =>
   obtain ⟨i,rfl,h10,hi,hs⟩:=unh_some hu
   simp only [Int.toNat_natCast]
   have h1:=pcn_dif h10 hi
   have h2:=grtF_spec (c:=c) n (dif x (2 ^ i)) (dif_lt (n:=10) hx) (by omega)
   refine ⟨h2.1,h2.2.1.trans (dif_sub' _ _),fun q hq hqq hsub=>h2.2.2 q hq hqq fun k hk=>?_⟩
   rw [dif_bit,hsub k hk,two_bit]
   by_cases e:i=k
   ·subst e
    rw [sat_mono hsub _ (quo_sat hq hqq hk)] at hs
    cases hs
   ·simp [e]
theorem and_lt10 {a b:Nat} (hb:b < 1024):a &&& b < 1024:=Nat.lt_of_le_of_lt Nat.and_le_right hb
theorem grt_un {c:List S92} (x:Nat):unh c (grt c x)=none∧Sub (grt c x) (x &&& decl c)∧∀ q,q < 1024→quo c q=true→Sub q (x &&& decl c)→Sub q (grt c x) :=
 grtF_spec 11 _ (and_lt10 (decl_lt c)) (by have:=pcn_le (x &&& decl c);omega)
theorem grt_sub (c:List S92) (x:Nat):Sub (grt c x) x:=fun i hi=>by
 have:=(grt_un (c:=c) x).2.1 i hi
 rw [and_bit,Bool.and_eq_true] at this
 exact this.1
theorem grt_decl (c:List S92) (x:Nat):Sub (grt c x) (decl c):=fun i hi=>by
 have:=(grt_un (c:=c) x).2.1 i hi
 rw [and_bit,Bool.and_eq_true] at this
 exact this.2
theorem grt_lt (c:List S92) (x:Nat):grt c x < 1024:=(grt_decl c x).lt (decl_lt c)
theorem grt_quo {c:List S92} {x:Nat} (h:grt c x ≠ 0):quo c (grt c x)=true :=
 (quo_iff (grt_lt c x)).2 ⟨h,grt_decl c x,(unh_none (grt_lt c x)).1 (grt_un x).1⟩
theorem grt_max {c:List S92} {x q:Nat} (hq:q < 1024) (h:quo c q=true) (hs:Sub q x):Sub q (grt c x) :=
 (grt_un x).2.2 q hq h fun i hi=>by rw [and_bit,hs i hi,((quo_iff hq).1 h).2.1 i hi];rfl
theorem Sub.zero {a:Nat} (h:Sub a 0):a=0:=h.eq fun i hi=>by rw [Nat.zero_testBit] at hi;cases hi
theorem grt_ne {c:List S92} {x q:Nat} (hq:q < 1024) (h:quo c q=true) (hs:Sub q x):grt c x ≠ 0:=fun e=>by
 have h1:=grt_max hq h hs
 rw [e] at h1
 exact ((quo_iff hq).1 h).1 h1.zero
def allQ (c:List S92):List Int:=((List.range (2 ^ c.length)).filter fun x=>quo c x).map Int.ofNat
theorem quo_range {c:List S92} (hn:c.length≤10) {q:Nat} (hq:q < 1024) (h:quo c q=true):q < 2 ^ c.length:=lt_of_bits fun i hi=>by
 cases hb:q.testBit i
 ·rfl
 ·have:=decl_len (((quo_iff hq).1 h).2.1 i hb);omega
theorem pow10 {n:Nat} (hn:n≤10):2 ^ n≤1024:=Nat.pow_le_pow_right (n:=2) (by decide) hn
theorem allQ_mem {c:List S92} (hn:c.length≤10) {x:Int}:x∈allQ c ↔ ∃ q:Nat,x=(q:Int)∧q < 1024∧quo c q=true:=by
 have hp:=pow10 hn
 unfold allQ
 rw [List.mem_map]
 constructor
 ·rintro ⟨q,hq,rfl⟩
  rw [List.mem_filter,List.mem_range] at hq
  exact ⟨q,rfl,by omega,hq.2⟩
 ·rintro ⟨q,rfl,h1,h2⟩
  exact ⟨q,by rw [List.mem_filter,List.mem_range];exact ⟨quo_range hn h1 h2,h2⟩,rfl⟩
theorem allQ_len (c:List S92) (hn:c.length≤10):(allQ c).length≤1024:=by
 have hp:=pow10 hn
 unfold allQ
 rw [List.length_map]
 exact Nat.le_trans (List.length_filter_le _ _) (by simpa using hp)
def minQ (c:List S92):List Int:=leastS (allQ c)
def MinQ (c:List S92) (q:Nat):Prop:=q < 1024∧quo c q=true∧∀ p,p < 1024→quo c p=true→Sub p q→p=q
theorem minQ_mem {c:List S92} (hn:c.length≤10) {x:Int}:x∈minQ c ↔ ∃ q:Nat,x=(q:Int)∧MinQ c q:=by
 unfold minQ MinQ
 rw [(leastS_spec _).2]
 unfold Mini
 rw [allQ_mem hn]
 constructor
 ·rintro ⟨⟨q,rfl,h1,h2⟩,h3,h4⟩
  refine ⟨q,rfl,h1,h2,fun p hp hq hs=>?_⟩
  have:=h4 (p:Int) ((allQ_mem hn).2 ⟨p,rfl,hp,hq⟩) (vld_nat hp) (by rw [Int.toNat_natCast,Int.toNat_natCast];exact hs)
  omega
 ·rintro ⟨q,rfl,h1,h2,h3⟩
  refine ⟨⟨q,rfl,h1,h2⟩,vld_nat h1,fun y hy hv hs=>?_⟩
  obtain ⟨p,rfl,hp,hq⟩:=(allQ_mem hn).1 hy
  rw [Int.toNat_natCast,Int.toNat_natCast] at hs
  rw [h3 p hp hq hs]
theorem minQ_ex {c:List S92}:∀ (q:Nat),q < 1024→quo c q=true→∃ p,MinQ c p∧Sub p q:=by
 intro q
 induction q using Nat.strongRecOn with
 | _ q ih =>
  intro hq h
  by_cases hm:∃ p,p < 1024∧quo c p=true∧Sub p q∧p ≠ q
  ·obtain ⟨p,h1,h2,h3,h4⟩:=hm
   obtain ⟨r,h5,h6⟩:=ih p (by have:=h3.le;omega) h1 h2
   exact ⟨r,h5,h6.trans h3⟩
  ·refine ⟨q,⟨hq,h,fun p h1 h2 h3=>?_⟩,Sub.refl _⟩
   apply Classical.byContradiction
   intro h4
   exact hm ⟨p,h1,h2,h3,h4⟩
theorem minQ_len (c:List S92) (hn:c.length≤10):(minQ c).length≤1024:=by
 have hne:∀ {a b:Int},ltS a b→a ≠ b:=fun {a b} h e=>ltS_irrefl a (by rw [← e] at h;exact h)
 have hnd:(minQ c).Nodup:=List.Pairwise.imp hne (leastS_spec _).1
 exact Nat.le_trans (hnd.length_le_of_subset fun x hx=>(((leastS_spec _).2 x).1 hx).1) (allQ_len c hn)
end Go.Proofs.YtkjlcbfjllpcnaaGreat.X
namespace Go.Proofs.YtkjlcbfjllpcnaaGreat.X
open Go.RowKit YtkjlcbfjllpcnaaGreatW.PrintWords YtkjlcbfjllpcnaaGreatW.PrintLast YtkjlcbfjllpcnaaGreatW.PrintMore
attribute [local go_sem] max2_int min2_int max_two min_two max_three min_three max_four min_four
end Go.Proofs.YtkjlcbfjllpcnaaGreat.X
namespace Go.Proofs.YtkjlcbfjllpcnaaGreat.X
open Go.RowKit YtkjlcbfjllpcnaaGreatW.PrintWords YtkjlcbfjllpcnaaGreatW.PrintLast YtkjlcbfjllpcnaaGreatW.PrintMore
theorem content_ev {c:List S92} (hc:Light c) {x j:Nat} (hx:x < 1024) (hj:j < c.length):Ev (fun k=>closure_content.f k c (j:Int) (x:Int)) (sat x (c.getD j z92).f1):=by
 have hj0:(0:Int)≤j:=by omega
 have hj1:(j:Int) < (c.length:Int):=by omega
 have hsat:=Sat_ev hx 1000000 _ (hc.at j) (by decide)
 simp only [closure_content.f,hj0,hj1,Int.toNat_natCast,Option.bind_some,↓reduceIte,Bool.false_eq_true,reduceCtorEq,decide_eq_true_eq,rd_,rd_T90,rd_T92]
 refine Ev.bind1 hsat ?_
 exact Ev.now _
def optN:Option Int→Int × Bool
 | some j=>(j,true)
 | none=>(0,false)
theorem unhappy_ev {c:List S92} (hc:Light c) {x:Nat} (hx:x < 1024) (hd:Sub x (decl c)):Ev (fun k=>closure_unhappy.f k c (x:Int)) (optN (unh c x)):=by
 simp only [closure_unhappy.f]
 refine Ev.bind1 (Nodes_ev hx) ?_
 have hl:=nodesL_len x
 refine Ev.fold (xs:=nodesL x) (L:=fun (a:Unit) i k=>closure_unhappy.l0 k (x:Int) (nodesL x) ((nodesL x).length:Int) i c) (by omega) (fun pre ys a=>(ys.find? fun j=>!(sat x (c.getD j.toNat z92).f1))=unh c x) ?_ ?_ () rfl
 ·intro a i hI hi
  rw [List.find?_nil] at hI
  (refine Ev.shift ?_;simp only [closure_unhappy.l0,hi,Option.bind_some,↓reduceIte,Bool.false_eq_true,reduceCtorEq,decide_eq_true_eq,rd_,rd_T90,rd_T92])
  rw [← hI]
  exact Ev.now _
 ·intro pre y ys a i e hI hi h0 hlt hw hrd
  obtain ⟨j,rfl,h10,hj⟩:=inS_iff.1 (nodesL_mem.1 (show y∈nodesL x by rw [e];simp))
  have hcon:=content_ev hc hx (decl_len (hd j hj))
  rw [List.find?_cons,Int.toNat_natCast] at hI
  cases hs:sat x (c.getD j z92).f1
  ·refine Or.inr ?_
   rw [hs] at hI
   simp only [Bool.not_false] at hI
   rw [← hI]
   (refine Ev.shift ?_;simp only [closure_unhappy.l0,h0,hlt,hw,hrd,Option.bind_some,↓reduceIte,Bool.false_eq_true,reduceCtorEq,decide_eq_true_eq,rd_,rd_T90,rd_T92])
   refine Ev.bind1 hcon ?_
   rw [hs]
   exact Ev.now _
  ·rw [hs] at hI
   simp only [Bool.not_true] at hI
   refine Or.inl ⟨(),hI,fun k=>?_⟩
   (refine Ev.shift ?_;simp only [closure_unhappy.l0,h0,hlt,hw,hrd,Option.bind_some,↓reduceIte,Bool.false_eq_true,reduceCtorEq,decide_eq_true_eq,rd_,rd_T90,rd_T92])
   refine Ev.bind1 hcon ?_
   rw [hs]
   exact k
theorem quo_unh {c:List S92} {x:Nat} (hx:x < 1024) (h0:x ≠ 0) (hd:Sub x (decl c)):quo c x=!(optN (unh c x)).2:=by
 cases hu:unh c x with
 | none=>exact (quo_iff hx).2 ⟨h0,hd,(unh_none hx).1 hu⟩
 | some j =>
  obtain ⟨i,rfl,h10,hi,hs⟩:=unh_some hu
  cases hq:quo c x
  ·rfl
  ·rw [quo_sat hx hq hi] at hs;cases hs
theorem Quorum_ev {c:List S92} (hc:Light c) {x:Nat} (hx:x < 1024):Ev (fun k=>closure_Quorum.f k c (x:Int)) (quo c x):=by
 simp only [closure_Quorum.f,Valid_eq,vld_nat hx,Option.bind_some,↓reduceIte,Bool.false_eq_true,reduceCtorEq,decide_eq_true_eq,rd_,rd_T90,rd_T92]
 by_cases h0:x=0
 ·have h1:(x:Int)=0:=by omega
  simp only [h1,Option.bind_some,↓reduceIte,Bool.false_eq_true,reduceCtorEq,decide_eq_true_eq,rd_,rd_T90,rd_T92]
  have:quo c x=false:=by unfold quo;simp [h0]
  rw [this]
  exact Ev.now _
 have h1:¬ (x:Int)=0:=by omega
 simp only [h1,closure_inside.f,Option.bind_some,↓reduceIte,Bool.false_eq_true,reduceCtorEq,decide_eq_true_eq,rd_,rd_T90,rd_T92]
 have hD:=Declared_ev hc.1
 have hin:Ev (fun k=>(configuration_Declared.f k c).bind fun t=>some (Go.bits .andNot .i64 (x:Int) t == 0)) (dif x (decl c) == 0):=by
  refine Ev.bind1 hD ?_
  have hdl:=decl_lt c
  rw [andNot_nat (by omega) (by omega)]
  have:(((dif x (decl c):Nat):Int) == 0)=(dif x (decl c) == 0):=by
   by_cases h:dif x (decl c)=0
   ·rw [h];rfl
   ·have h2:¬ ((dif x (decl c):Nat):Int)=0:=by omega
    rw [beq_eq_false_iff_ne.2 h,beq_eq_false_iff_ne.2 h2]
  rw [this]
  exact Ev.now _
 refine Ev.bind1 hin ?_
 by_cases h:Sub x (decl c)
 ·rw [sub_dif.2 h]
  simp only [beq_self_eq_true,if_true]
  refine Ev.bind1 (unhappy_ev hc hx h) ?_
  rw [quo_unh hx h0 h]
  exact Ev.now _
 ·have h2:(dif x (decl c) == 0)=false:=beq_eq_false_iff_ne.2 fun e=>h (sub_dif.1 e)
  rw [h2]
  simp only [Bool.false_eq_true,if_false]
  have:quo c x=false:=by
   cases hq:quo c x
   ·rfl
   ·exact absurd ((quo_iff hx).1 hq).2.1 h
  rw [this]
  exact Ev.now _
def memS (n:Nat) (t:Int):S92:=⟨true,⟨t,(List.range n).map Int.ofNat,[]⟩⟩
def sameC (n:Nat) (t:Int):List S92:=List.replicate n (memS n t)
end Go.Proofs.YtkjlcbfjllpcnaaGreat.X
namespace Go.Proofs.YtkjlcbfjllpcnaaGreat.X
open Go.RowKit YtkjlcbfjllpcnaaGreatW.PrintWords YtkjlcbfjllpcnaaGreatW.PrintLast YtkjlcbfjllpcnaaGreatW.PrintMore
attribute [local go_sem] max2_int min2_int max_two min_two max_three min_three max_four min_four
end Go.Proofs.YtkjlcbfjllpcnaaGreat.X
namespace Go.Proofs.YtkjlcbfjllpcnaaGreat.X
open Go.RowKit YtkjlcbfjllpcnaaGreatW.PrintWords YtkjlcbfjllpcnaaGreatW.PrintLast YtkjlcbfjllpcnaaGreatW.PrintMore
theorem validT_chk {t:S90} (h:validT t=0):chk t=0:=by
 unfold validT at h
 split at h
 ·cases h
 split at h
 ·cases h
 exact h
mutual
def lv (s:Nat):S90→S90
 | ⟨n,l,ts⟩=>⟨max (max n 0 - ((l.countP (fun x=>inS s x)+lvC s ts:Nat):Int)) 0,l.filter (fun x=>!inS s x),lvI s ts⟩
def lvI (s:Nat):List S90→List S90
 | []=>[]
 | t :: ts=>if (lv s t).f0=0 then lvI s ts else lv s t :: lvI s ts
def lvC (s:Nat):List S90→Nat
 | []=>0
 | t :: ts=>(if (lv s t).f0=0 then 1 else 0)+lvC s ts
end
theorem lv_eq (s:Nat) (t:S90):lv s t=⟨max (max t.f0 0 - ((t.f1.countP (fun x=>inS s x)+lvC s t.f2:Nat):Int)) 0,t.f1.filter (fun x=>!inS s x),lvI s t.f2⟩:=by cases t;rw [lv]
def delT (s:Nat) (j:Int) (t:S90):S90:=if (lv s t).f0=0 then ⟨1,[j],[]⟩ else lv s t
mutual
theorem lv_wt (s:Nat):∀ t:S90,wt (lv s t)≤wt t
 | ⟨n,l,ts⟩=>by
  have h1:=List.length_filter_le (fun x=>!inS s x) l
  have h2:=lvI_wt s ts
  rw [lv,wt,wt]
  omega
theorem lvI_wt (s:Nat):∀ ts:List S90,wtL (lvI s ts)≤wtL ts
 | []=>by rw [lvI];exact Nat.le_refl _
 | t :: ts=>by
  have h1:=lv_wt s t
  have h2:=lvI_wt s ts
  rw [lvI]
  split
  ·rw [wtL];omega
  ·rw [wtL,wtL];omega
end
mutual
theorem lv_dep (s:Nat):∀ t:S90,dep (lv s t)≤dep t
 | ⟨n,l,ts⟩=>by
  have h2:=lvI_dep s ts
  rw [lv,dep,dep]
  omega
theorem lvI_dep (s:Nat):∀ ts:List S90,depL (lvI s ts)≤depL ts
 | []=>by rw [lvI];exact Nat.le_refl _
 | t :: ts=>by
  have h1:=lv_dep s t
  have h2:=lvI_dep s ts
  rw [lvI]
  split
  ·rw [depL];omega
  ·rw [depL,depL];omega
end
mutual
theorem lv_siz (s:Nat):∀ t:S90,siz (lv s t)≤siz t
 | ⟨n,l,ts⟩=>by
  have h1:=List.length_filter_le (fun x=>!inS s x) l
  have h2:=lvI_siz s ts
  rw [lv,siz,siz]
  omega
theorem lvI_siz (s:Nat):∀ ts:List S90,(lvI s ts).length+sizL (lvI s ts)≤ts.length+sizL ts
 | []=>by rw [lvI];exact Nat.le_refl _
 | t :: ts=>by
  have h1:=lv_siz s t
  have h2:=lvI_siz s ts
  rw [lvI]
  split
  ·rw [sizL,List.length_cons];omega
  ·rw [sizL,sizL,List.length_cons,List.length_cons];omega
end
theorem foldU_mono {p:Int→Bool}:∀ (l:List Int) (a b:Nat),Sub a b→Sub (foldU (l.filter p) a) (foldU l b)
 | [],a,b,h=>h
 | x :: xs,a,b,h=>by
  rw [List.filter_cons]
  have h1:∀ c:Nat,foldU (x :: xs) c=foldU xs (if noNode x=true then c else c ||| 2 ^ x.toNat):=fun _=>rfl
  split
  ·have h2:foldU (x :: xs.filter p) a=foldU (xs.filter p) (if noNode x=true then a else a ||| 2 ^ x.toNat):=rfl
   rw [h1,h2]
   refine foldU_mono xs _ _ ?_
   split
   ·exact h
   ·exact Sub.or (h.trans (Sub.orl _ _)) (Sub.orr _ _)
  ·rw [h1]
   refine foldU_mono xs _ _ (h.trans ?_)
   split
   ·exact Sub.refl _
   ·exact Sub.orl _ _
mutual
theorem lv_uses (s:Nat):∀ t:S90,Sub (uses (lv s t)) (uses t)
 | ⟨n,l,ts⟩=>by
  have h2:=lvI_uses s ts
  have h1:=foldU_mono (p:=fun x=>!inS s x) l 0 0 (Sub.refl _)
  rw [lv,uses,uses]
  exact Sub.or (h1.trans (Sub.orl _ _)) (h2.trans (Sub.orr _ _))
theorem lvI_uses (s:Nat):∀ ts:List S90,Sub (useL (lvI s ts)) (useL ts)
 | []=>by rw [lvI];exact Sub.refl _
 | t :: ts=>by
  have h1:=lv_uses s t
  have h2:=lvI_uses s ts
  rw [lvI]
  split
  ·rw [useL];exact h2.trans (Sub.orr _ _)
  ·rw [useL,useL];exact Sub.or (h1.trans (Sub.orl _ _)) (h2.trans (Sub.orr _ _))
end
theorem ofS_filter {p:Int→Bool}:∀ (l:List Int) (a b:Nat),Sub b a→(ofS a l).2=0→(ofS b (l.filter p)).2=0
 | [],a,b,_,_=>rfl
 | x :: xs,a,b,hs,h=>by
  rw [ofS] at h
  split at h
  ·cases h
  rename_i h1
  split at h
  ·cases h
  rename_i h2
  rw [List.filter_cons]
  split
  ·rw [ofS,if_neg h1,if_neg (fun e=>h2 (inS_mono hs e))]
   exact ofS_filter xs _ _ (Sub.or (hs.trans (Sub.orl _ _)) (Sub.orr _ _)) h
  ·exact ofS_filter xs _ _ (hs.trans (Sub.orl _ _)) h
theorem any_filter {p q:Int→Bool} {l:List Int} (h:¬ l.any q=true):¬ (l.filter p).any q=true:=by
 intro hh
 obtain ⟨x,hx,hq⟩:=List.any_eq_true.1 hh
 exact h (List.any_eq_true.2 ⟨x,(List.mem_filter.1 hx).1,hq⟩)
theorem count_len (s:Nat) (l:List Int):l.length=l.countP (fun x=>inS s x)+(l.filter (fun x=>!inS s x)).length:=by
 induction l with
 | nil=>rfl
 | cons x xs ih =>
  rw [List.length_cons,List.countP_cons,List.filter_cons,ih]
  cases inS s x <;> simp <;> omega
theorem lvI_len (s:Nat):∀ ts:List S90,ts.length=lvC s ts+(lvI s ts).length
 | []=>by rw [lvC,lvI];rfl
 | t :: ts=>by
  have:=lvI_len s ts
  rw [lvC,lvI]
  split <;> simp <;> omega
mutual
theorem lv_chk (s:Nat):∀ t:S90,chk t=0→(lv s t).f0 ≠ 0→chk (lv s t)=0
 | ⟨n,l,ts⟩=>by
  intro h h0
  rw [chk] at h
  split at h
  ·cases h
  rename_i h1
  split at h
  ·cases h
  rename_i h2
  split at h
  case isFalse hh=>exact absurd h hh
  rename_i h3
  have h4:=lvI_chk s ts h
  have h5:=ofS_filter (p:=fun x=>!inS s x) l 0 0 (Sub.refl _) h3
  have h6:=count_len s l
  have h7:=lvI_len s ts
  rw [lv] at h0 ⊢
  simp only at h0
  rw [chk,if_neg (by omega),if_neg (any_filter h2),if_pos h5]
  exact h4
theorem lvI_chk (s:Nat):∀ ts:List S90,chkL ts=0→chkL (lvI s ts)=0
 | [],_=>by rw [lvI,chkL]
 | t :: ts,h=>by
  rw [chkL] at h
  split at h
  case isFalse hh=>exact absurd h hh
  rename_i h1
  have h2:=lvI_chk s ts h
  rw [lvI]
  split
  ·exact h2
  ·rename_i h3
   rw [chkL,if_pos (lv_chk s t h1 h3)]
   exact h2
end
theorem delT_ok {n:Nat} (hn:n≤10) {s j:Nat} (hj:j < n) {t:S90} (h:Okt n t):Okt n (delT s (j:Int) t):=by
 unfold delT
 split
 ·exact one_ok (by omega) (by omega) hn
 ·rename_i h0
  have hv:=h.1
  have h1:=lv_dep s t
  have h2:=lv_siz s t
  have h3:=lv_chk s t (validT_chk hv) h0
  refine ⟨?_,Nat.le_trans (lv_wt s t) h.2.1,?_⟩
  ·unfold validT at hv
   split at hv
   ·cases hv
   split at hv
   ·cases hv
   unfold validT
   rw [if_neg (by omega),if_neg (by omega)]
   exact h3
  ·exact Nat.lt_of_le_of_lt (lv_uses s t).le h.2.2
def delM (s:Nat) (j:Nat) (m:S92):S92:=if inS s (j:Int)=true then ⟨false,⟨0,[],[]⟩⟩ else if m.f0=true then ⟨true,delT s (j:Int) m.f1⟩ else ⟨false,⟨m.f1.f0,[],[]⟩⟩
def delF (s:Nat):Nat→List S92→List S92
 | _,[]=>[]
 | j,m :: ms=>delM s j m :: delF s (j+1) ms
def delC (c:List S92) (s:Nat):List S92:=delF s 0 c
theorem delF_len (s:Nat):∀ (c:List S92) (j:Nat),(delF s j c).length=c.length
 | [],_=>rfl
 | m :: ms,j=>by rw [delF,List.length_cons,List.length_cons,delF_len s ms]
theorem delC_len (c:List S92) (s:Nat):(delC c s).length=c.length:=delF_len s c 0
theorem delF_get (s:Nat):∀ (c:List S92) (j i:Nat),i < c.length→(delF s j c).getD i z92=delM s (j+i) (c.getD i z92)
 | [],_,_,h=>absurd h (by simp)
 | m :: ms,j,0,_=>rfl
 | m :: ms,j,i+1,h=>by
  rw [delF,List.getD_cons_succ,List.getD_cons_succ,delF_get s ms (j+1) i (by simpa using h),Nat.add_right_comm,Nat.add_assoc]
theorem delC_get {c:List S92} {s i:Nat} (h:i < c.length):(delC c s).getD i z92=delM s i (c.getD i z92):=by
 unfold delC
 rw [delF_get s c 0 i h,Nat.zero_add]
theorem delC_ok {c:List S92} (hc:OkC c) (s:Nat):OkC (delC c s):=by
 have hl:=delC_len c s
 refine ⟨by rw [hl];exact hc.1,by rw [hl];exact hc.2.1,fun m hm=>?_⟩
 rw [hl]
 obtain ⟨i,hi,rfl⟩:=List.getElem_of_mem hm
 rw [hl] at hi
 have e:(delC c s)[i]=delM s i (c.getD i z92):=by
  rw [← delC_get hi,List.getD_eq_getElem?_getD,List.getElem?_eq_getElem (by rw [hl];exact hi)]
  rfl
 rw [e]
 have ho:=hc.2.2 _ (getD_mem' z92 hi)
 unfold delM OkM
 unfold OkM at ho
 split
 ·rfl
 ·by_cases hf:(c.getD i z92).f0=true
  ·rw [if_pos hf] at ho ⊢
   exact delT_ok hc.2.1 hi ho
  ·rw [if_neg hf] at ho ⊢
   rw [ho]
   rfl
theorem eta32 (t:S90):(⟨t.f0,t.f1,t.f2⟩:S90)=t:=by cases t;rfl
theorem mx_max (a b:Int):mx a b=max a b:=by unfold mx;split <;> omega
theorem lowered_eq {t:Int} (h0:0≤t) (h1:t≤1000000000):deletion_lowered.f t 1=some (max t 1 - 1):=by
 unfold deletion_lowered.f
 rw [mx_max,w64 (by omega) (by omega)]
theorem chkL_mem:∀ {l:List S90} {t:S90},t∈l→chkL l=0→chk t=0
 | x :: xs,t,h,hc=>by
  rw [chkL] at hc
  split at hc
  case isFalse hh=>exact absurd hc hh
  rename_i h1
  rcases List.mem_cons.1 h with rfl|h
  ·exact h1
  ·exact chkL_mem h hc
theorem chk_inner {t:S90} (h:chk t=0):chkL t.f2=0∧1≤t.f0∧t.f0≤((t.f1.length+t.f2.length:Nat):Int):=by
 rw [chk_eq] at h
 split at h
 ·cases h
 rename_i h1
 split at h
 ·cases h
 split at h
 case isFalse hh=>exact absurd h hh
 exact ⟨h,by omega,by omega⟩
theorem level_l1 {s:Nat} (n0:Int) (xs:List S90) (hx:xs.length < 1000000)
  (h:∀ y∈xs,Ev (fun k=>deletion_level.f k y.f0 y.f1 y.f2 (s:Int)) ((lv s y).f0,(lv s y).f1,(lv s y).f2)) (l':List Int) (T:Int) (t0:Int) (h0:0≤t0) (h1:t0≤1000000000) (hT:max (t0 - (lvC s xs:Nat)) 0=T) :
  Ev (fun k=>deletion_level.l1 k (s:Int) xs (xs.length:Int) 0 t0 l' ([]:List S90)) (T,l',lvI s xs):=by
 refine Ev.fold (L:=fun (c:Int × List S90) i k=>deletion_level.l1 k (s:Int) xs (xs.length:Int) i c.1 l' c.2) (by omega) (fun pre ys c=>0≤c.1∧c.1≤1000000000∧max (c.1 - (lvC s ys:Nat)) 0=T∧c.2++lvI s ys=lvI s xs∧c.2.length≤pre.length) ?_ ?_ (t0,[]) ⟨h0,h1,hT,rfl,Nat.le_refl _⟩
 ·rintro ⟨t,o⟩ i ⟨i0,i1,i2,i3,i4⟩ hi
  simp only at i0 i1 i2 i3 i4 ⊢
  rw [lvC] at i2
  rw [lvI,List.append_nil] at i3
  (refine Ev.shift ?_;simp only [deletion_level.l1,hi,Option.bind_some,↓reduceIte,Bool.false_eq_true,reduceCtorEq,decide_eq_true_eq,rd_,rd_T90,rd_T92])
  have:t=T:=by omega
  rw [this,i3]
  exact Ev.now _
 ·rintro pre y ys ⟨t,o⟩ i e ⟨i0,i1,i2,i3,i4⟩ hi h0 hlt hw hrd
  simp only at i0 i1 i2 i3 i4 ⊢
  rw [lvC] at i2
  rw [lvI] at i3
  have hy:=h y (by rw [e];simp)
  by_cases hz:(lv s y).f0=0
  ·rw [if_pos hz] at i2 i3
   refine Or.inl ⟨(max t 1 - 1,o),⟨by simp only;omega,by simp only;omega,by simp only;omega,i3,by simp;omega⟩,fun k=>?_⟩
   (refine Ev.shift ?_;simp only [deletion_level.l1,h0,hlt,hw,hrd,Option.bind_some,↓reduceIte,Bool.false_eq_true,reduceCtorEq,decide_eq_true_eq,rd_,rd_T90,rd_T92])
   refine Ev.bind1 hy ?_
   simp only [hz,if_true,lowered_eq i0 i1,Option.bind_some]
   exact k
  ·rw [if_neg hz] at i2 i3
   have hol:o.length < 2513169434916:=by
    have:pre.length < xs.length:=by omega
    omega
   refine Or.inl ⟨(t,o++[lv s y]),⟨i0,i1,by simp only;omega,by rw [List.append_assoc];exact i3,by simp;omega⟩,fun k=>?_⟩
   (refine Ev.shift ?_;simp only [deletion_level.l1,h0,hlt,hw,hrd,Option.bind_some,↓reduceIte,Bool.false_eq_true,reduceCtorEq,decide_eq_true_eq,rd_,rd_T90,rd_T92])
   refine Ev.bind1 hy ?_
   simp only [hz,if_false,hol,if_true,eta32]
   exact k
theorem dlevel_ev {s:Nat} (hs:s < 1024):∀ (m:Nat) (t:S90),wt t < m→m≤1000000→chk t=0→Ev (fun k=>deletion_level.f k t.f0 t.f1 t.f2 (s:Int)) ((lv s t).f0,(lv s t).f1,(lv s t).f2)
 | 0,t,h,_,_=>absurd h (by omega)
 | m+1,t,h,hm,hc=>by
  obtain ⟨hci,hf1,hf2⟩:=chk_inner hc
  rw [wt_eq] at h
  have hl:=len_wtL t.f2
  rw [lv_eq]
  simp only
  have hin:∀ y∈t.f2,Ev (fun k=>deletion_level.f k y.f0 y.f1 y.f2 (s:Int)) ((lv s y).f0,(lv s y).f1,(lv s y).f2):=fun y hy=>dlevel_ev hs m y (by have:=wt_mem hy;omega) (by omega) (chkL_mem hy hci)
  have hcl:=lvI_len s t.f2
  (refine Ev.shift ?_;simp only [deletion_level.f,mx_max,Option.bind_some,↓reduceIte,Bool.false_eq_true,reduceCtorEq,decide_eq_true_eq,rd_,rd_T90,rd_T92])
  refine Ev.fold (xs:=t.f1) (L:=fun (c:Int × List Int) i k=>deletion_level.l0 k (s:Int) t.f1 (t.f1.length:Int) i t.f0 t.f1 t.f2 c.1 c.2) (by omega) (fun pre ys c=>0≤c.1∧c.1≤1000000000∧max (c.1 - (ys.countP (fun x=>inS s x):Nat)) 0=max (max t.f0 0 - (t.f1.countP (fun x=>inS s x):Nat)) 0∧c.2++ys.filter (fun x=>!inS s x)=t.f1.filter (fun x=>!inS s x)∧c.2.length≤pre.length) ?_ ?_ (max t.f0 0,[]) ⟨by simp only;omega,by simp only;omega,rfl,rfl,Nat.le_refl _⟩
  ·rintro ⟨t',o⟩ i ⟨i0,i1,i2,i3,i4⟩ hi
   simp only at i0 i1 i2 i3 i4 ⊢
   rw [List.countP_nil] at i2
   rw [List.filter_nil,List.append_nil] at i3
   (refine Ev.shift ?_;simp only [deletion_level.l0,hi,Option.bind_some,↓reduceIte,Bool.false_eq_true,reduceCtorEq,decide_eq_true_eq,rd_,rd_T90,rd_T92])
   rw [i3]
   refine level_l1 t.f0 t.f2 (by omega) hin _ _ t' i0 i1 ?_
   omega
  ·rintro pre y ys ⟨t',o⟩ i e ⟨i0,i1,i2,i3,i4⟩ hi h0 hlt hw hrd
   simp only at i0 i1 i2 i3 i4 ⊢
   rw [List.countP_cons] at i2
   rw [List.filter_cons] at i3
   cases hin:inS s y
   ·rw [hin] at i2 i3
    simp only [Bool.not_false,if_true,Bool.false_eq_true,if_false] at i2 i3
    have hol:o.length < 17592186044416:=by
     have:pre.length < t.f1.length:=by omega
     omega
    refine Or.inl ⟨(t',o++[y]),⟨i0,i1,i2,by rw [List.append_assoc];exact i3,by simp;omega⟩,fun k=>?_⟩
    (refine Ev.shift ?_;simp only [deletion_level.l0,h0,hlt,hw,hrd,Has_eq hs,hin,hol,Option.bind_some,↓reduceIte,Bool.false_eq_true,reduceCtorEq,decide_eq_true_eq,rd_,rd_T90,rd_T92])
    exact k
   ·rw [hin] at i2 i3
    simp only [Bool.not_true,Bool.false_eq_true,if_false,if_true] at i2 i3
    refine Or.inl ⟨(max t' 1 - 1,o),⟨by simp only;omega,by simp only;omega,by simp only;omega,i3,by simp;omega⟩,fun k=>?_⟩
    (refine Ev.shift ?_;simp only [deletion_level.l0,h0,hlt,hw,hrd,Has_eq hs,hin,lowered_eq i0 i1,Option.bind_some,↓reduceIte,Bool.false_eq_true,reduceCtorEq,decide_eq_true_eq,rd_,rd_T90,rd_T92])
    exact k
theorem DTrust_ev {s:Nat} (hs:s < 1024) (j:Int) (t:S90) (h:wt t < 1000000) (hc:chk t=0):Ev (fun k=>deletion_Trust.f k t.f0 t.f1 t.f2 j (s:Int)) ((delT s j t).f0,(delT s j t).f1,(delT s j t).f2):=by
 simp only [deletion_Trust.f,Valid_eq,vld_nat hs,Option.bind_some,↓reduceIte,Bool.false_eq_true,reduceCtorEq,decide_eq_true_eq,rd_,rd_T90,rd_T92]
 refine Ev.bind1 (dlevel_ev hs 1000000 t h (Nat.le_refl _) hc) ?_
 unfold delT
 by_cases hz:(lv s t).f0=0
 ·simp only [hz,if_true]
  exact Ev.now _
 ·simp only [hz,if_false]
  exact Ev.now _
theorem Delete_ev {c:List S92} (hc:OkC c) {s:Nat} (hs:s < 1024):Ev (fun k=>deletion_Delete.f k c (s:Int)) (delC c s):=by
 simp only [deletion_Delete.f]
 have hn:=hc.2.1
 refine Ev.fold (xs:=c) (L:=fun (o:List S92) i k=>deletion_Delete.l0 k (s:Int) c (c.length:Int) i o) (by omega) (fun pre ys o=>o++delF s pre.length ys=delC c s∧o.length=pre.length) ?_ ?_ [] ⟨rfl,rfl⟩
 ·rintro o i ⟨hI,ho⟩ hi
  rw [delF,List.append_nil] at hI
  subst hI
  (refine Ev.shift ?_;simp only [deletion_Delete.l0,hi,Option.bind_some,↓reduceIte,Bool.false_eq_true,reduceCtorEq,decide_eq_true_eq,rd_,rd_T90,rd_T92])
  exact Ev.now _
 ·rintro pre y ys o i e ⟨hI,ho⟩ hi h0 hlt hw hrd
  have hol:o.length < 2199023255552:=by omega
  have hy:=hc.2.2 y (by rw [e];simp)
  rw [delF] at hI
  have hi':inS s i=inS s (pre.length:Int):=by rw [hi]
  refine Or.inl ⟨o++[delM s pre.length y],⟨by rw [List.append_assoc,List.length_append];exact hI,by simp [ho]⟩,fun k=>?_⟩
  (refine Ev.shift ?_;simp only [deletion_Delete.l0,h0,hlt,hw,hrd,Has_eq hs,Option.bind_some,↓reduceIte,Bool.false_eq_true,reduceCtorEq,decide_eq_true_eq,rd_,rd_T90,rd_T92])
  cases hin:inS s i
  ·simp only [Bool.false_eq_true,if_false]
   unfold OkM at hy
   by_cases hf:y.f0=true
   ·rw [if_pos hf] at hy
    simp only [hf,if_true]
    refine Ev.bind1 (DTrust_ev hs i y.f1 (by have:=hy.2.1;omega) (validT_chk hy.1)) ?_
    simp only [hol,if_true,eta32]
    have em:delM s pre.length y=⟨true,delT s i y.f1⟩:=by
     unfold delM
     rw [← hi,hin,if_neg (by simp),if_pos hf]
    rw [em] at k
    exact k
   ·rw [if_neg hf] at hy
    simp only [hf,if_false,hy,deletion_copied.f,if_true,Option.bind_some,hol]
    have em:delM s pre.length y=⟨false,⟨0,[],[]⟩⟩:=by
     unfold delM
     rw [← hi,hin,if_neg (by simp),if_neg hf,hy]
    rw [em] at k
    simp only [Bool.false_eq_true,if_false]
    exact k
  ·simp only [if_true,hol]
   have em:delM s pre.length y=⟨false,⟨0,[],[]⟩⟩:=by
    unfold delM
    rw [← hi,hin,if_pos rfl]
   rw [em] at k
   exact k
def ltN (x y:Nat):Prop:=pcn x < pcn y ∨ (pcn x=pcn y∧x < y)
theorem ltN_trans {x y z:Nat} (h:ltN x y) (k:ltN y z):ltN x z:=by unfold ltN at *;omega
theorem pcn_full:∀ n,n < 11→pcn (2 ^ n - 1)=n:=by decide +kernel
theorem pcn_bound:∀ n,n < 11→∀ z,z < 2 ^ n→pcn z≤n:=by decide +kernel
theorem pcn_least:∀ z,z < 1024→2 ^ pcn z - 1≤z:=by decide +kernel
theorem below_eq (s:Int) {n:Nat} (hn:n≤10):nodeset_below.f s (n:Int)=some (decide (0≤s) && decide (s < ((2 ^ n:Nat):Int))):=by
 unfold nodeset_below.f
 have hsh:shl .i64 1 (n:Int)=((2 ^ n:Nat):Int):=shl_nat (by omega)
 by_cases h:s ≥ 0
 ·rw [if_pos h,if_pos (by omega),hsh]
  have:decide (0≤s)=true:=decide_eq_true h
  rw [this,Bool.true_and]
 ·rw [if_neg h]
  have:decide (0≤s)=false:=decide_eq_false h
  rw [this,Bool.false_and]
def Nxt (n s:Nat) (r:Int × Bool):Prop:=(r.2=true∧∃ t:Nat,r.1=(t:Int)∧t < 2 ^ n∧ltN s t∧∀ u,u < 2 ^ n→ltN u t→ltN u s ∨ u=s) ∨ (r.2=false∧∀ u,u < 2 ^ n→ltN u s ∨ u=s)
theorem size_nat {s:Nat} (hs:s < 1024):size (s:Int)=(pcn s:Int):=by
 unfold size
 rw [vld_nat hs,if_pos rfl,Int.toNat_natCast]
theorem Next_ev {n s:Nat} (hn:n≤10) (hs:s < 2 ^ n):EvP (fun k=>nodeset_Next.f k (s:Int) (n:Int)) (Nxt n s):=by
 have hp:=pow10 hn
 have hs10:s < 1024:=by omega
 have h1:¬ (n:Int) < 0:=by omega
 have h2:¬ (n:Int) > 10:=by omega
 have h3:(decide (0≤(s:Int)) && decide ((s:Int) < ((2 ^ n:Nat):Int)))=true:=by rw [Bool.and_eq_true,decide_eq_true_eq,decide_eq_true_eq];omega
 have hb:∀ s:Int,nodeset_below.f s (n:Int)=some (decide (0≤s) && decide (s < ((2 ^ n:Nat):Int))):=fun s=>below_eq s hn
 have hps:=pcn_bound n (by omega) s hs
 simp only [nodeset_Next.f,h1,h2,if_false,hb,h3,Option.bind_some,Bool.not_true]
 refine EvP.shift ?_
 simp only [nodeset_Next.j0,Bool.false_eq_true,if_false,Size_eq,size_nat hs10,Option.bind_some]
 rw [show wrap64 ((s:Int)+1)=((s+1:Nat):Int) from w64 (by omega) (by omega)]
 refine EvP.loop (L:=fun (t:Nat) k=>nodeset_Next.l0 k (n:Int) (pcn s:Int) (t:Int)) (fun t=>s < t∧t≤2 ^ n∧∀ u,s < u→u < t→pcn u ≠ pcn s) (fun t=>2 ^ n - t) ?_ (s+1) ⟨by omega,by omega,fun u h k=>absurd h (by omega)⟩
 rintro t ⟨h4,h5,h6⟩ ih
 refine EvP.shift ?_
 simp only [nodeset_Next.l0,hb,Option.bind_some]
 by_cases h7:t < 2 ^ n
 ·have h8:(decide (0≤(t:Int)) && decide ((t:Int) < ((2 ^ n:Nat):Int)))=true:=by rw [Bool.and_eq_true,decide_eq_true_eq,decide_eq_true_eq];omega
  have ht10:t < 1024:=by omega
  simp only [h8,if_true,Size_eq,size_nat ht10,Option.bind_some]
  by_cases h9:pcn t=pcn s
  ·have h10:(pcn t:Int)=(pcn s:Int):=by omega
   simp only [h10,if_true]
   refine EvP.now (Or.inl ⟨rfl,t,rfl,h7,Or.inr ⟨h9.symm,h4⟩,fun u hu hlt=>?_⟩)
   unfold ltN at hlt ⊢
   rcases hlt with h|⟨h,h'⟩
   ·left;left;omega
   ·rcases Nat.lt_trichotomy u s with h''|h''|h''
    ·left;right;omega
    ·right;exact h''
    ·exact absurd (show pcn u=pcn s by omega) (h6 u h'' h')
  ·have h10:¬ (pcn t:Int)=(pcn s:Int):=by omega
   simp only [h10,if_false]
   rw [show wrap64 ((t:Int)+1)=((t+1:Nat):Int) from w64 (by omega) (by omega)]
   refine ih (t+1) ⟨by omega,by omega,fun u hu hut=>?_⟩ (by omega)
   rcases Nat.lt_or_ge u t with h|h
   ·exact h6 u hu h
   ·have:u=t:=by omega
    rw [this];exact h9
 ·have h8:(decide (0≤(t:Int)) && decide ((t:Int) < ((2 ^ n:Nat):Int)))=false:=by rw [decide_eq_false (show ¬ (t:Int) < ((2 ^ n:Nat):Int) by omega),Bool.and_false]
  have ht:t=2 ^ n:=by omega
  simp only [h8,Bool.false_eq_true,if_false]
  have hno:∀ u,u < 2 ^ n→pcn u=pcn s→u≤s:=fun u hu he=>by
   rcases Nat.lt_or_ge s u with h|h
   ·exact absurd he (h6 u h (by omega))
   ·exact h
  by_cases h9:pcn s=n
  ·have h10:(pcn s:Int)=(n:Int):=by omega
   simp only [h10,if_true]
   refine EvP.now (Or.inr ⟨rfl,fun u hu=>?_⟩)
   have h11:=pcn_bound n (by omega) u hu
   unfold ltN
   rcases Nat.lt_or_ge (pcn u) (pcn s) with h|h
   ·left;left;exact h
   ·have:=hno u hu (by omega)
    rcases Nat.lt_or_ge u s with h'|h'
    ·left;right;omega
    ·right;omega
  ·have h10:¬ (pcn s:Int)=(n:Int):=by omega
   have e1:wrap64 ((pcn s:Int)+1)=((pcn s+1:Nat):Int):=w64 (by omega) (by omega)
   have h12:(0:Int)≤((pcn s+1:Nat):Int):=by omega
   have hm:pcn s+1≤n:=by omega
   have hpm:2 ^ (pcn s+1)≤2 ^ n:=Nat.pow_le_pow_right (by decide) hm
   have hpp:=Nat.two_pow_pos (pcn s+1)
   have e2:wrap64 (shl .i64 1 ((pcn s+1:Nat):Int) - 1)=((2 ^ (pcn s+1) - 1:Nat):Int):=by
    rw [shl_nat (by omega),w64 (by omega) (by omega)]
    omega
   simp only [h10,if_false,e1,h12,if_true,e2]
   have hpt:=pcn_full (pcn s+1) (by omega)
   refine EvP.now (Or.inl ⟨rfl,_,rfl,by omega,Or.inl (by omega),fun u hu hlt=>?_⟩)
   unfold ltN at hlt ⊢
   rcases hlt with h|⟨h,h'⟩
   ·rcases Nat.lt_or_ge (pcn u) (pcn s) with h''|h''
    ·left;left;exact h''
    ·have:=hno u hu (by omega)
     rcases Nat.lt_or_ge u s with h3|h3
     ·left;right;omega
     ·right;omega
   ·have h13:=pcn_least u (by omega)
    rw [h,hpt] at h13
    omega
theorem PGreatest_ev {c:List S92} (hc:Light c) {x:Nat} (hx:x < 1024):Ev (fun k=>closure_Greatest.f k c (x:Int)) (grt c x:Int):=by
 have hdl:=decl_lt c
 have key:∀ (n:Nat) (s:Nat) (o:List Int),s < 1024→Sub s (decl c)→pcn s < n→o.length+n≤1000→Ev (fun k=>closure_eliminate.l0 k (s:Int) o c) ((grtF c n s:Int),o++elimF c n s):=by
  intro n
  induction n with
  | zero=>intro s o _ _ h;exact absurd h (by omega)
  | succ n ih =>
   intro s o hs hd hp ho
   rw [elimF,grtF]
   (refine Ev.shift ?_;simp only [closure_eliminate.l0,Option.bind_some,↓reduceIte,Bool.false_eq_true,reduceCtorEq,decide_eq_true_eq,rd_,rd_T90,rd_T92])
   refine Ev.bind1 (unhappy_ev hc hs hd) ?_
   cases hu:unh c s with
   | none =>
    simp only [optN,Bool.false_eq_true,if_false,List.append_nil]
    exact Ev.now _
   | some j =>
    obtain ⟨i,rfl,h10,hi,_⟩:=unh_some hu
    have hol:o.length < 17592186044416:=by omega
    have hi0:(0:Int)≤i:=by omega
    simp only [optN,if_true,hol,hi0,Int.toNat_natCast]
    rw [shl_nat' h10,andNot_nat (a:=s) (b:=2 ^ i) (by omega) (by have:=two_lt10 h10;omega)]
    have:=ih (dif s (2 ^ i)) (o++[(i:Int)]) (dif_lt (n:=10) hs) ((dif_sub' _ _).trans hd) (by have:=pcn_dif h10 hi;omega) (by simp;omega)
    rw [List.append_assoc] at this
    exact this
 have hE:Ev (fun k=>closure_eliminate.f k c (x:Int)) ((grt c x:Int),elimF c 11 (x &&& decl c)):=by
  simp only [closure_eliminate.f,Valid_eq,vld_nat hx,Option.bind_some,↓reduceIte,Bool.false_eq_true,reduceCtorEq,decide_eq_true_eq,rd_,rd_T90,rd_T92]
  refine Ev.bind1 (Declared_ev hc.1) ?_
  rw [and_nat' hx hdl]
  have:=key 11 (x &&& decl c) [] (and_lt10 hdl) (fun i hi=>by rw [and_bit,Bool.and_eq_true] at hi;exact hi.2) (by have:=pcn_le (x &&& decl c);omega) (by simp)
  rw [List.nil_append] at this
  exact this
 simp only [closure_Greatest.f]
 refine Ev.bind1 hE ?_
 exact Ev.now _
def hit (c:List S92) (s:Nat):Bool:=quo c s && (grt c (dif (2 ^ c.length - 1) s) != 0)
def apartB (c:List S92):Bool:=(List.range (2 ^ c.length)).any fun s=>hit c s
theorem members_eq {c:List S92} (hn:c.length≤10):intersection_members.f c=some ((2 ^ c.length - 1:Nat):Int):=by
 have hp:=pow10 hn
 have hp0:=Nat.two_pow_pos c.length
 unfold intersection_members.f
 rw [shl_nat (by omega),w64 (by omega) (by omega)]
 congr 1
 omega
def Fnd (c:List S92) (r:Int × Int):Prop:=(∃ s:Nat,r=((s:Int),((grt c (dif (2 ^ c.length - 1) s):Nat):Int))∧s < 2 ^ c.length∧hit c s=true∧∀ u,u < 2 ^ c.length→ltN u s→hit c u=false) ∨ (r=(0,0)∧∀ u,u < 2 ^ c.length→hit c u=false)
theorem find_ev {c:List S92} (hc:Light c) (hn:c.length≤10):EvP (fun k=>intersection_find.f k c) (Fnd c):=by
 have hp:=pow10 hn
 have hp0:=Nat.two_pow_pos c.length
 simp only [intersection_find.f]
 have fin:∀ v:Int,(∀ u,u < 2 ^ c.length→hit c u=false)→EvP (fun k=>intersection_find.l0 k (c.length:Int) v false c) (Fnd c):=by
  intro v h
  refine EvP.shift ?_
  simp only [intersection_find.l0,Bool.false_eq_true,if_false]
  exact EvP.now (Or.inr ⟨rfl,h⟩)
 refine EvP.loop (L:=fun (s:Nat) k=>intersection_find.l0 k (c.length:Int) (s:Int) true c) (fun s=>s < 2 ^ c.length∧∀ u,u < 2 ^ c.length→ltN u s→hit c u=false) (fun s=>((List.range (2 ^ c.length)).filter fun u=>!decide (pcn u < pcn s ∨ (pcn u=pcn s∧u < s))).length) ?_ 0 ⟨hp0,fun u hu h=>by
  have h0:pcn 0=0:=by decide
  unfold ltN at h
  omega⟩
 rintro s ⟨hs,hno⟩ ih
 have hs10:s < 1024:=by omega
 have next:hit c s=false→EvP (fun k=>(nodeset_Next.f k (s:Int) (c.length:Int)).bind fun bt=>intersection_find.l0 k (c.length:Int) bt.1 bt.2 c) (Fnd c):=by
  intro hhit
  refine EvP.bind (Next_ev hn hs) ?_
  rintro ⟨v,b⟩ h
  rcases h with ⟨h1,t,h2,h3,h4,h5⟩|⟨h1,h2⟩
  ·simp only at h1 h2
   subst h1
   subst h2
   refine ih t ⟨h3,fun u hu hlt=>?_⟩ ?_
   ·rcases h5 u hu hlt with h|h
    ·exact hno u hu h
    ·rw [h];exact hhit
   ·
    have hsub:((List.range (2 ^ c.length)).filter fun u=>!decide (pcn u < pcn t ∨ (pcn u=pcn t∧u < t))).length < ((List.range (2 ^ c.length)).filter fun u=>!decide (pcn u < pcn s ∨ (pcn u=pcn s∧u < s))).length:=by
     rw [← List.countP_eq_length_filter,← List.countP_eq_length_filter]
     have hc1:(List.range (2 ^ c.length)).countP (fun u=>!decide (pcn u < pcn t ∨ (pcn u=pcn t∧u < t)))≤(List.range (2 ^ c.length)).countP (fun u=>!decide (pcn u < pcn s ∨ (pcn u=pcn s∧u < s)) && !decide (u=s)):=by
      refine List.countP_mono_left fun u _ h=>?_
      have h':¬ ltN u t:=fun hh=>by unfold ltN at hh;rw [decide_eq_true hh] at h;cases h
      have h6:¬ ltN u s:=fun hh=>h' (ltN_trans hh h4)
      have h7:u ≠ s:=fun e=>h' (by rw [e];exact h4)
      unfold ltN at h6
      simp [h7]
      omega
     have hc2:(List.range (2 ^ c.length)).countP (fun u=>!decide (pcn u < pcn s ∨ (pcn u=pcn s∧u < s)))=(List.range (2 ^ c.length)).countP (fun u=>!decide (pcn u < pcn s ∨ (pcn u=pcn s∧u < s)) && !decide (u=s))+(List.range (2 ^ c.length)).countP (fun u=>decide (u=s)):=by
      generalize List.range (2 ^ c.length)=R
      induction R with
      | nil=>rfl
      | cons x xs ihx =>
       rw [List.countP_cons,List.countP_cons,List.countP_cons,ihx]
       by_cases e:x=s
       ·subst e
        simp
        omega
       ·simp [e]
        omega
     have hc3:0 < (List.range (2 ^ c.length)).countP (fun u=>decide (u=s)):=List.countP_pos_iff.2 ⟨s,List.mem_range.2 hs,by simp⟩
     omega
    exact hsub
  ·simp only at h1
   subst h1
   refine fin v fun u hu=>?_
   rcases h2 u hu with h|h
   ·exact hno u hu h
   ·rw [h];exact hhit
 refine EvP.shift ?_
 simp only [intersection_find.l0,if_true]
 refine EvP.bind (EvP.ofEv (Quorum_ev hc hs10)) ?_
 rintro b rfl
 have hdl:dif (2 ^ c.length - 1) s < 1024:=Nat.lt_of_le_of_lt (dif_sub' _ _).le (by omega)
 cases hq:quo c s
 ·simp only [Bool.false_eq_true,if_false]
  exact next (by unfold hit;rw [hq];rfl)
 ·simp only [if_true,members_eq hn,Option.bind_some]
  rw [andNot_nat (by omega) (by omega)]
  refine EvP.bind (EvP.ofEv (PGreatest_ev hc hdl)) ?_
  rintro g rfl
  by_cases h0:grt c (dif (2 ^ c.length - 1) s)=0
  ·have h1:((grt c (dif (2 ^ c.length - 1) s):Nat):Int)=0:=by omega
   simp only [h1,if_true]
   exact next (by unfold hit;rw [h0];simp)
  ·have h1:¬ ((grt c (dif (2 ^ c.length - 1) s):Nat):Int)=0:=by omega
   simp only [h1,if_false]
   exact EvP.now (Or.inl ⟨s,rfl,hs,by unfold hit;rw [hq];simpa using h0,hno⟩)
theorem Holds_ev {c:List S92} (hc:Light c) (hn:c.length≤10) (hv:valC c=0):Ev (fun k=>intersection_Holds.f k c) (!apartB c,0):=by
 have h:EvP (fun k=>intersection_Holds.f k c) (fun r=>r=(!apartB c,0)):=by
  simp only [intersection_Holds.f]
  refine EvP.bind (EvP.ofEv (CValid_ev hc)) ?_
  rintro r rfl
  rw [hv]
  simp only [if_true]
  refine EvP.bind (find_ev hc hn) ?_
  rintro r (⟨s,rfl,hs,hh,_⟩|⟨rfl,hno⟩)
  ·have h1:apartB c=true:=List.any_eq_true.2 ⟨s,List.mem_range.2 hs,hh⟩
   have h2:s ≠ 0:=by
    have hq:quo c s=true:=by unfold hit at hh;rw [Bool.and_eq_true] at hh;exact hh.1
    have hp:=pow10 hn
    exact ((quo_iff (by omega)).1 hq).1
   rw [h1]
   refine EvP.now ?_
   simp
   omega
  ·have h1:apartB c=false:=by
    cases hb:apartB c
    ·rfl
    ·obtain ⟨s,hs,hh⟩:=List.any_eq_true.1 hb
     rw [hno s (List.mem_range.1 hs)] at hh
     cases hh
   rw [h1]
   exact EvP.now rfl
 obtain ⟨r,rfl,h⟩:=h
 exact h
end Go.Proofs.YtkjlcbfjllpcnaaGreat.X
namespace Go.Proofs.YtkjlcbfjllpcnaaGreat.X
open Go.RowKit YtkjlcbfjllpcnaaGreatW.PrintWords YtkjlcbfjllpcnaaGreatW.PrintLast YtkjlcbfjllpcnaaGreatW.PrintMore
attribute [local go_sem] max2_int min2_int max_two min_two max_three min_three max_four min_four
end Go.Proofs.YtkjlcbfjllpcnaaGreat.X
namespace Go.Proofs.YtkjlcbfjllpcnaaGreat.X
open Go.RowKit YtkjlcbfjllpcnaaGreatW.PrintWords YtkjlcbfjllpcnaaGreatW.PrintLast YtkjlcbfjllpcnaaGreatW.PrintMore
theorem full_wrap {n:Nat} (hn:n≤10):wrap64 (shl .i64 1 (n:Int) - 1)=((2 ^ n - 1:Nat):Int):=by
 have hp:=pow10 hn
 have hp0:=Nat.two_pow_pos n
 rw [shl_nat (by omega),w64 (by omega) (by omega)]
 omega
theorem sub_full {n t:Nat}:Sub t (2 ^ n - 1) ↔ t < 2 ^ n:=by
 constructor
 ·intro h
  exact lt_of_bits fun i hi=>by
   cases hb:t.testBit i
   ·rfl
   ·have:=h i hb
    rw [full_bit] at this
    simp at this
    omega
 ·intro h i hi
  rw [full_bit]
  rcases Nat.lt_or_ge i n with h'|h'
  ·simpa using h'
  ·rw [bit_lt h h'] at hi;cases hi
def spl (c:List S92) (s:Nat):Bool:=apartB (delC c s)
def hal (c:List S92) (s:Nat):Bool:=grt c (dif (2 ^ c.length - 1) s) == 0
def lstB (p:Nat→Bool) (n:Nat):List Int:=leastS ((subsetsS ((2 ^ n - 1:Nat):Int)).filter fun s=>p s.toNat)
theorem lst_mem {p:Nat→Bool} {n:Nat} (hn:n≤10) {x:Int}:x∈lstB p n ↔ ∃ s:Nat,x=(s:Int)∧s < 2 ^ n∧p s=true∧∀ u,p u=true→Sub u s→u=s:=by
 have hp:=pow10 hn
 have hm:∀ y:Int,y∈(subsetsS ((2 ^ n - 1:Nat):Int)).filter (fun s=>p s.toNat) ↔ ∃ t:Nat,y=(t:Int)∧t < 2 ^ n∧p t=true:=by
  intro y
  rw [List.mem_filter,subsetsS_mem (by omega)]
  constructor
  ·rintro ⟨⟨t,rfl,h1⟩,h2⟩
   rw [Int.toNat_natCast] at h2
   exact ⟨t,rfl,sub_full.1 h1,h2⟩
  ·rintro ⟨t,rfl,h1,h2⟩
   exact ⟨⟨t,rfl,sub_full.2 h1⟩,by rw [Int.toNat_natCast];exact h2⟩
 unfold lstB
 rw [(leastS_spec _).2]
 unfold Mini
 rw [hm]
 constructor
 ·rintro ⟨⟨s,rfl,h1,h2⟩,h3,h4⟩
  refine ⟨s,rfl,h1,h2,fun u hu hs=>?_⟩
  have hun:u < 2 ^ n:=Nat.lt_of_le_of_lt hs.le h1
  have:=h4 (u:Int) ((hm _).2 ⟨u,rfl,hun,hu⟩) (vld_nat (by omega)) (by rw [Int.toNat_natCast,Int.toNat_natCast];exact hs)
  omega
 ·rintro ⟨s,rfl,h1,h2,h3⟩
  refine ⟨⟨s,rfl,h1,h2⟩,vld_nat (by omega),fun y hy hv hs=>?_⟩
  obtain ⟨u,rfl,hu,hpu⟩:=(hm y).1 hy
  rw [Int.toNat_natCast,Int.toNat_natCast] at hs
  rw [h3 u hpu hs]
theorem lst_ex {p:Nat→Bool} {n:Nat} (hn:n≤10):∀ (s:Nat),s < 2 ^ n→p s=true→∃ y:Nat,(y:Int)∈lstB p n∧Sub y s:=by
 intro s
 induction s using Nat.strongRecOn with
 | _ s ih =>
  intro hs h
  by_cases hm:∃ u,p u=true∧Sub u s∧u ≠ s
  ·obtain ⟨u,h1,h2,h3⟩:=hm
   have hle:=h2.le
   obtain ⟨y,h4,h5⟩:=ih u (by omega) (by omega) h1
   exact ⟨y,h4,h5.trans h2⟩
  ·refine ⟨s,(lst_mem hn).2 ⟨s,rfl,hs,h,fun u h1 h2=>?_⟩,Sub.refl _⟩
   apply Classical.byContradiction
   intro h3
   exact hm ⟨u,h1,h2,h3⟩
theorem lst_filter_len (p:Nat→Bool) {n:Nat} (hn:n≤10):((subsetsS ((2 ^ n - 1:Nat):Int)).filter fun s=>p s.toNat).length≤1024:=by
 have hp:=pow10 hn
 exact Nat.le_trans (List.length_filter_le _ _) (subsetsS_len (by omega))
theorem lst_len (p:Nat→Bool) {n:Nat} (hn:n≤10):(lstB p n).length≤1024:=by
 have hne:∀ {a b:Int},ltS a b→a ≠ b:=fun {a b} h e=>ltS_irrefl a (by rw [← e] at h;exact h)
 have hnd:(lstB p n).Nodup:=List.Pairwise.imp hne (leastS_spec _).1
 exact Nat.le_trans (hnd.length_le_of_subset fun x hx=>(((leastS_spec _).2 x).1 hx).1) (lst_filter_len p hn)
theorem splits_ev {c:List S92} (hc:OkC c) {s:Nat} (hs:s < 1024):Ev (fun k=>danger_splits.f k c (s:Int)) (spl c s):=by
 have hd:=delC_ok hc s
 simp only [danger_splits.f]
 refine Ev.bind1 (Delete_ev hc hs) ?_
 refine Ev.bind1 (Holds_ev hd.light hd.2.1 hd.valC) ?_
 simp only [Bool.not_not]
 exact Ev.now _
theorem halts_ev {c:List S92} (hc:Light c) (hn:c.length≤10) {s:Nat} (hs:s < 1024):Ev (fun k=>danger_halts.f k c (s:Int)) (hal c s):=by
 have hp:=pow10 hn
 have hdl:dif (2 ^ c.length - 1) s < 1024:=Nat.lt_of_le_of_lt (dif_sub' _ _).le (by omega)
 simp only [danger_halts.f,danger_members.f,full_wrap hn,Option.bind_some]
 rw [andNot_nat (by omega) (by omega)]
 refine Ev.bind1 (PGreatest_ev hc hdl) ?_
 have:(((grt c (dif (2 ^ c.length - 1) s):Nat):Int) == 0)=hal c s:=by
  unfold hal
  by_cases h:grt c (dif (2 ^ c.length - 1) s)=0
  ·rw [h];rfl
  ·have h2:¬ ((grt c (dif (2 ^ c.length - 1) s):Nat):Int)=0:=by omega
   rw [beq_eq_false_iff_ne.2 h,beq_eq_false_iff_ne.2 h2]
 rw [this]
 exact Ev.now _
theorem least_fin {out:List Int} {p:Nat→Bool} {n:Nat} (hn:n≤10) (h:out=(subsetsS ((2 ^ n - 1:Nat):Int)).filter fun s=>p s.toNat):nodeset_Least.f out=some (lstB p n):=by
 have:=lst_filter_len p hn
 unfold nodeset_Least.f lstB
 rw [h,if_pos (by omega)]
theorem least_splits_ev {c:List S92} (hc:OkC c):Ev (fun k=>danger_least_splits.f k c) (lstB (spl c) c.length):=by
 have hn:=hc.2.1
 have hp:=pow10 hn
 have hp0:=Nat.two_pow_pos c.length
 simp only [danger_least_splits.f,danger_members.f,full_wrap hn,nodeset_Subsets.f,Option.bind_some]
 have hfull:2 ^ c.length - 1 < 1024:=by omega
 have hfin:∀ out,out=(subsetsS ((2 ^ c.length - 1:Nat):Int)).filter (fun s=>spl c s.toNat)→nodeset_Least.f out=some (lstB (spl c) c.length):=fun out h=>least_fin hn h
 have hsl:=subsetsS_len hfull
 have hmem:∀ y∈subsetsS ((2 ^ c.length - 1:Nat):Int),∃ t:Nat,y=(t:Int)∧t < 1024:=fun y hy=>by
  obtain ⟨t,rfl,h⟩:=(subsetsS_mem hfull).1 hy
  exact ⟨t,rfl,h.lt hfull⟩
 generalize subsetsS ((2 ^ c.length - 1:Nat):Int)=U at hfin hsl hmem
 refine Ev.fold (xs:=U) (L:=fun (o:List Int) i k=>danger_least_splits.l0 k o U (U.length:Int) i c) (by omega) (fun pre ys o=>o++ys.filter (fun s=>spl c s.toNat)=U.filter (fun s=>spl c s.toNat)∧o.length≤pre.length) ?_ ?_ [] ⟨rfl,Nat.le_refl _⟩
 ·rintro o i ⟨hI,ho⟩ hi
  rw [List.filter_nil,List.append_nil] at hI
  (refine Ev.shift ?_;simp only [danger_least_splits.l0,hi,hfin o hI,Option.bind_some,↓reduceIte,Bool.false_eq_true,reduceCtorEq,decide_eq_true_eq,rd_,rd_T90,rd_T92])
  exact Ev.now _
 ·rintro pre y ys o i e ⟨hI,ho⟩ hi h0 hlt hw hrd
  obtain ⟨t,rfl,ht⟩:=hmem y (by rw [e];simp)
  rw [List.filter_cons,Int.toNat_natCast] at hI
  have hol:o.length < 17592186044416:=by
   have:pre.length < U.length:=by omega
   omega
  have hs:=splits_ev hc ht
  cases hb:spl c t
  ·rw [hb] at hI hs
   simp only [Bool.false_eq_true,if_false] at hI
   refine Or.inl ⟨o,⟨hI,by simp;omega⟩,fun k=>?_⟩
   (refine Ev.shift ?_;simp only [danger_least_splits.l0,h0,hlt,hw,hrd,Option.bind_some,↓reduceIte,Bool.false_eq_true,reduceCtorEq,decide_eq_true_eq,rd_,rd_T90,rd_T92])
   refine Ev.bind1 hs ?_
   simp only [Bool.false_eq_true,if_false]
   exact k
  ·rw [hb] at hI hs
   simp only [if_true] at hI
   refine Or.inl ⟨o++[(t:Int)],⟨by rw [List.append_assoc];exact hI,by simp;omega⟩,fun k=>?_⟩
   (refine Ev.shift ?_;simp only [danger_least_splits.l0,h0,hlt,hw,hrd,Option.bind_some,↓reduceIte,Bool.false_eq_true,reduceCtorEq,decide_eq_true_eq,rd_,rd_T90,rd_T92])
   refine Ev.bind1 hs ?_
   simp only [if_true,hol]
   exact k
theorem least_halts_ev {c:List S92} (hc:Light c) (hn:c.length≤10):Ev (fun k=>danger_least_halts.f k c) (lstB (hal c) c.length):=by
 have hp:=pow10 hn
 have hp0:=Nat.two_pow_pos c.length
 simp only [danger_least_halts.f,danger_members.f,full_wrap hn,nodeset_Subsets.f,Option.bind_some]
 have hfull:2 ^ c.length - 1 < 1024:=by omega
 have hfin:∀ out,out=(subsetsS ((2 ^ c.length - 1:Nat):Int)).filter (fun s=>hal c s.toNat)→nodeset_Least.f out=some (lstB (hal c) c.length):=fun out h=>least_fin hn h
 have hsl:=subsetsS_len hfull
 have hmem:∀ y∈subsetsS ((2 ^ c.length - 1:Nat):Int),∃ t:Nat,y=(t:Int)∧t < 1024:=fun y hy=>by
  obtain ⟨t,rfl,h⟩:=(subsetsS_mem hfull).1 hy
  exact ⟨t,rfl,h.lt hfull⟩
 generalize subsetsS ((2 ^ c.length - 1:Nat):Int)=U at hfin hsl hmem
 refine Ev.fold (xs:=U) (L:=fun (o:List Int) i k=>danger_least_halts.l0 k o U (U.length:Int) i c) (by omega) (fun pre ys o=>o++ys.filter (fun s=>hal c s.toNat)=U.filter (fun s=>hal c s.toNat)∧o.length≤pre.length) ?_ ?_ [] ⟨rfl,Nat.le_refl _⟩
 ·rintro o i ⟨hI,ho⟩ hi
  rw [List.filter_nil,List.append_nil] at hI
  (refine Ev.shift ?_;simp only [danger_least_halts.l0,hi,hfin o hI,Option.bind_some,↓reduceIte,Bool.false_eq_true,reduceCtorEq,decide_eq_true_eq,rd_,rd_T90,rd_T92])
  exact Ev.now _
 ·rintro pre y ys o i e ⟨hI,ho⟩ hi h0 hlt hw hrd
  obtain ⟨t,rfl,ht⟩:=hmem y (by rw [e];simp)
  rw [List.filter_cons,Int.toNat_natCast] at hI
  have hol:o.length < 17592186044416:=by
   have:pre.length < U.length:=by omega
   omega
  have hs:=halts_ev hc hn ht
  cases hb:hal c t
  ·rw [hb] at hI hs
   simp only [Bool.false_eq_true,if_false] at hI
   refine Or.inl ⟨o,⟨hI,by simp;omega⟩,fun k=>?_⟩
   (refine Ev.shift ?_;simp only [danger_least_halts.l0,h0,hlt,hw,hrd,Option.bind_some,↓reduceIte,Bool.false_eq_true,reduceCtorEq,decide_eq_true_eq,rd_,rd_T90,rd_T92])
   refine Ev.bind1 hs ?_
   simp only [Bool.false_eq_true,if_false]
   exact k
  ·rw [hb] at hI hs
   simp only [if_true] at hI
   refine Or.inl ⟨o++[(t:Int)],⟨by rw [List.append_assoc];exact hI,by simp;omega⟩,fun k=>?_⟩
   (refine Ev.shift ?_;simp only [danger_least_halts.l0,h0,hlt,hw,hrd,Option.bind_some,↓reduceIte,Bool.false_eq_true,reduceCtorEq,decide_eq_true_eq,rd_,rd_T90,rd_T92])
   refine Ev.bind1 hs ?_
   simp only [if_true,hol]
   exact k
theorem small_ev {c:List S92} (hc:OkC c) (h7:c.length≤7):Ev (fun k=>danger_small.f k c) 0:=by
 have h:¬ (c.length:Int) > 7:=by omega
 simp only [danger_small.f]
 refine Ev.bind1 (CValid_ev hc.light) ?_
 rw [hc.valC]
 simp only [if_true,h,if_false]
 exact Ev.now _
theorem Splitting_ev {c:List S92} (hc:OkC c) (h7:c.length≤7):Ev (fun k=>danger_Splitting.f k c) (lstB (spl c) c.length,0):=by
 simp only [danger_Splitting.f]
 refine Ev.bind1 (small_ev hc h7) ?_
 simp only [if_true]
 refine Ev.bind1 (least_splits_ev hc) ?_
 exact Ev.now _
theorem Halting_ev {c:List S92} (hc:Light c) (hn:c.length≤10) (hv:valC c=0):Ev (fun k=>danger_Halting.f k c) (lstB (hal c) c.length,0):=by
 simp only [danger_Halting.f]
 refine Ev.bind1 (CValid_ev hc) ?_
 rw [hv]
 simp only [if_true]
 refine Ev.bind1 (least_halts_ev hc hn) ?_
 exact Ev.now _
def tol (n:Nat) (l:List Int):Int:=if l=[] then (n:Int) else size (l.getD 0 0) - 1
theorem size_bound (x:Int):0≤size x∧size x≤10:=by
 unfold size
 split
 ·have:=pcn_le x.toNat;omega
 ·omega
theorem tolerated_eq (c:List S92) (l:List Int):danger_tolerated.f c l=some (tol c.length l):=by
 unfold danger_tolerated.f tol
 cases l with
 | nil=>simp
 | cons x xs =>
  have h1:¬ (((x :: xs).length:Nat):Int)=0:=by simp;omega
  have h2:(0:Int) < (((x :: xs).length:Nat):Int):=by simp
  have h3:=size_bound x
  rw [if_neg h1,if_pos h2,if_neg (by simp)]
  simp only [rd_,Int.toNat_zero,List.getD_cons_zero,Size_eq,Option.bind_some]
  rw [w64 (by omega) (by omega)]
theorem Tolerates_ev {c:List S92} (hc:OkC c) (h7:c.length≤7):Ev (fun k=>danger_Tolerates.f k c) (tol c.length (lstB (spl c) c.length),tol c.length (lstB (hal c) c.length),0):=by
 simp only [danger_Tolerates.f]
 refine Ev.bind1 (small_ev hc h7) ?_
 simp only [if_true]
 refine Ev.bind1 (least_splits_ev hc) ?_
 simp only [tolerated_eq,Option.bind_some]
 refine Ev.bind1 (least_halts_ev hc.light hc.2.1) ?_
 exact Ev.now _
theorem sameB_ev {n:Nat} (hn:n≤1000) (t:Int):Ev (fun k=>qlaw16_same.f k (n:Int) t) (sameC n t):=by
 have hlt:¬ (n:Int) < (n:Int):=by omega
 simp only [qlaw16_same.f]
 refine Ev.count (L:=fun (l:List Int) i k=>qlaw16_same.l0 k (n:Int) i t l) n (by omega) (fun i l=>l=(List.range i).map Int.ofNat) ?_ ?_ [] rfl
 ·intro l hl
  (refine Ev.shift ?_;simp only [qlaw16_same.l0,hlt,Option.bind_some,↓reduceIte,Bool.false_eq_true,reduceCtorEq,decide_eq_true_eq,rd_,rd_T90,rd_T92])
  subst hl
  refine Ev.count (L:=fun (c:List S92) i k=>qlaw16_same.l1 k (n:Int) i t ((List.range n).map Int.ofNat) c) n (by omega) (fun i c=>c=List.replicate i (memS n t)) ?_ ?_ [] rfl
  ·intro c h
   (refine Ev.shift ?_;simp only [qlaw16_same.l1,hlt,Option.bind_some,↓reduceIte,Bool.false_eq_true,reduceCtorEq,decide_eq_true_eq,rd_,rd_T90,rd_T92])
   rw [h]
   exact Ev.now _
  ·intro i c hi h hw
   have h1:(i:Int) < (n:Int):=by omega
   have h2:c.length < 2199023255552:=by rw [h,List.length_replicate];omega
   refine Or.inl ⟨c++[memS n t],by rw [h,List.replicate_succ'],fun k=>?_⟩
   (refine Ev.shift ?_;simp only [qlaw16_same.l1,h1,h2,hw,Option.bind_some,↓reduceIte,Bool.false_eq_true,reduceCtorEq,decide_eq_true_eq,rd_,rd_T90,rd_T92])
   exact k
 ·intro i l hi h hw
  have h1:(i:Int) < (n:Int):=by omega
  have h2:l.length < 17592186044416:=by rw [h,List.length_map,List.length_range];omega
  refine Or.inl ⟨l++[(i:Int)],by rw [h,List.range_succ,List.map_append];rfl,fun k=>?_⟩
  (refine Ev.shift ?_;simp only [qlaw16_same.l0,h1,h2,hw,Option.bind_some,↓reduceIte,Bool.false_eq_true,reduceCtorEq,decide_eq_true_eq,rd_,rd_T90,rd_T92])
  exact k
theorem same_okC {n t:Nat} (hn1:1≤n) (hn:n≤10) (hv:validT (memS n (t:Int)).f1=0) (hu:uses (memS n (t:Int)).f1 < 2 ^ n):OkC (sameC n (t:Int)):=by
 have hl:(sameC n (t:Int)).length=n:=by simp [sameC]
 refine ⟨by omega,by omega,fun m hm=>?_⟩
 rw [hl]
 rw [List.eq_of_mem_replicate hm]
 unfold OkM
 rw [if_pos (show (memS n (t:Int)).f0=true from rfl)]
 refine ⟨hv,?_,hu⟩
 show wt ⟨(t:Int),(List.range n).map Int.ofNat,[]⟩≤100
 rw [wt,wtL]
 simp
 omega
theorem s4_ok:OkC (sameC 4 3):=same_okC (n:=4) (t:=3) (by decide) (by decide) (by decide) (by decide)
theorem s4_subs:subsetsS ((2 ^ (sameC 4 3).length - 1:Nat):Int)=[0,1,2,4,8,3,5,6,9,10,12,7,11,13,14,15]:=by
 show subsetsS ((15:Nat):Int)=_
 rw [subsetsS,vld_nat (by decide),if_pos rfl]
 exact sortS_eq (List.isPerm_iff.1 (by decide)) (by decide)
theorem s4_splits:lstB (spl (sameC 4 3)) (sameC 4 3).length=[3,5,6,9,10,12]:=by
 have e:([0,1,2,4,8,3,5,6,9,10,12,7,11,13,14,15]:List Int).filter (fun s=>spl (sameC 4 3) s.toNat)=[3,5,6,9,10,12]:=by decide +kernel
 have e2:([3,5,6,9,10,12]:List Int).filter vld=[3,5,6,9,10,12]:=by decide
 have e3:sortS [3,5,6,9,10,12]=[3,5,6,9,10,12]:=sortS_eq (List.Perm.refl _) (by decide)
 rw [lstB,s4_subs,e,leastS,e2,e3]
 decide
theorem s4_halts:lstB (hal (sameC 4 3)) (sameC 4 3).length=[3,5,6,9,10,12]:=by
 have e:([0,1,2,4,8,3,5,6,9,10,12,7,11,13,14,15]:List Int).filter (fun s=>hal (sameC 4 3) s.toNat)=[3,5,6,9,10,12,7,11,13,14,15]:=by decide +kernel
 have e2:([3,5,6,9,10,12,7,11,13,14,15]:List Int).filter vld=[3,5,6,9,10,12,7,11,13,14,15]:=by decide
 have e3:sortS [3,5,6,9,10,12,7,11,13,14,15]=[3,5,6,9,10,12,7,11,13,14,15]:=sortS_eq (List.Perm.refl _) (by decide)
 rw [lstB,s4_subs,e,leastS,e2,e3]
 decide
theorem awake16_ev:Ev (fun k=>qlaw16_awake.f k) true:=by
 have hs:Ev (fun k=>qlaw16_same.f k 4 3) (sameC 4 3):=sameB_ev (n:=4) (by decide) 3
 have h1:=Splitting_ev s4_ok (by decide)
 have h2:=Halting_ev s4_ok.light (by decide) s4_ok.valC
 have h3:=Tolerates_ev s4_ok (by decide)
 rw [s4_splits] at h1
 rw [s4_halts] at h2
 rw [s4_splits,s4_halts] at h3
 have e:tol (sameC 4 3).length [3,5,6,9,10,12]=1:=by decide
 rw [e] at h3
 simp only [qlaw16_awake.f]
 refine Ev.bind1 hs ?_
 refine Ev.bind1 h1 ?_
 refine Ev.bind1 hs ?_
 refine Ev.bind1 h2 ?_
 refine Ev.bind1 hs ?_
 refine Ev.bind1 h3 ?_
 simp only [if_true]
 refine Ev.bind1 (Ints_ev (by decide)) ?_
 simp only [decide_true,if_true]
 refine Ev.bind1 (Ints_ev (by decide)) ?_
 simp only [decide_true,if_true,beq_self_eq_true]
 exact Ev.now _
def meetB (l:List Int) (s:Nat):Bool:=l.all fun x=>Go.bits .and .i64 x (s:Int) != 0
def meetL (l:List Int) (m:Nat):List Int:=((List.range m).filter fun s=>meetB l s).map Int.ofNat
theorem meetL_len (l:List Int) (m:Nat):(meetL l m).length≤m:=by
 unfold meetL
 rw [List.length_map]
 have:=List.length_filter_le (fun s=>meetB l s) (List.range m)
 simpa using this
theorem meetL_succ (l:List Int) (m:Nat):meetL l (m+1)=if meetB l m=true then meetL l m++[(m:Int)] else meetL l m:=by
 unfold meetL
 rw [List.range_succ,List.filter_append]
 split
 ·rename_i h;simp [h]
 ·rename_i h;simp [h]
theorem meetL_mem {l:List Int} {m:Nat} {x:Int}:x∈meetL l m ↔ ∃ s:Nat,x=(s:Int)∧s < m∧meetB l s=true:=by
 unfold meetL
 rw [List.mem_map]
 constructor
 ·rintro ⟨s,h,rfl⟩
  rw [List.mem_filter,List.mem_range] at h
  exact ⟨s,rfl,h.1,h.2⟩
 ·rintro ⟨s,rfl,h1,h2⟩
  exact ⟨s,by rw [List.mem_filter,List.mem_range];exact ⟨h1,h2⟩,rfl⟩
theorem Meeting_ev {l:List Int} {n:Nat} (hn:n≤10) (hl:l.length≤1024) (hx:∀ x∈l,0≤x∧x < ((2 ^ n:Nat):Int)):Ev (fun k=>qref01_Meeting.f k l (n:Int)) (refLeast (meetL l (2 ^ n)),0):=by
 have hp:2 ^ n≤2 ^ 10:=Nat.pow_le_pow_right (by decide) hn
 have h1:¬ (n:Int) < 0:=by omega
 have h2:decide ((n:Int) > 10)=false:=by simp;omega
 have h3:(0:Int)≤n:=by omega
 have hsh:=shl_nat (k:=n) (by omega)
 simp only [qref01_Meeting.f,h1,h2,Option.bind_some,↓reduceIte,Bool.false_eq_true,reduceCtorEq,decide_eq_true_eq,rd_,rd_T90,rd_T92]
 (refine Ev.shift ?_;simp only [qref01_Meeting.j0,Option.bind_some,↓reduceIte,Bool.false_eq_true,reduceCtorEq,decide_eq_true_eq,rd_,rd_T90,rd_T92])
 have L1:Ev (fun k=>qref01_Meeting.l1 k l (n:Int) [] 0) (refLeast (meetL l (2 ^ n)),0):=by
  refine Ev.count (L:=fun (m:List Int) i k=>qref01_Meeting.l1 k l (n:Int) m i) (2 ^ n) (by omega) (fun i m=>m=meetL l i) ?_ ?_ [] rfl
  ·rintro m rfl
   have h:¬ ((2 ^ n:Nat):Int) < ((2 ^ n:Nat):Int):=by omega
   have h2:(meetL l (2 ^ n)).length≤1048576:=by have:=meetL_len l (2 ^ n);omega
   (refine Ev.shift ?_;simp only [qref01_Meeting.l1,h3,hsh,h,qref01_Least.f,h2,Option.bind_some,↓reduceIte,Bool.false_eq_true,reduceCtorEq,decide_eq_true_eq,rd_,rd_T90,rd_T92])
   exact Ev.now _
  ·rintro i m hi hm hw
   have h:(i:Int) < ((2 ^ n:Nat):Int):=by omega
   have hlen:m.length < 17592186044416:=by rw [hm];have:=meetL_len l i;omega
   have hs:=meetL_succ l i
   refine Or.inl ⟨if meetB l i=true then m++[(i:Int)] else m,by rw [hs,hm],fun k=>?_⟩
   (refine Ev.shift ?_;simp only [qref01_Meeting.l1,h3,hsh,h,Option.bind_some,↓reduceIte,Bool.false_eq_true,reduceCtorEq,decide_eq_true_eq,rd_,rd_T90,rd_T92])
   refine Ev.fold (xs:=l) (L:=fun (a:Bool) q k=>qref01_Meeting.l2 k l (n:Int) m (i:Int) a l (l.length:Int) q) (by omega) (fun pre ys a=>(a && ys.all fun x=>Go.bits .and .i64 x (i:Int) != 0)=meetB l i) ?_ ?_ true (by rw [Bool.true_and];rfl)
   ·intro a q hI hq
    rw [List.all_nil,Bool.and_true] at hI
    subst hI
    cases hb:meetB l i
    ·(refine Ev.shift ?_;simp only [qref01_Meeting.l2,hq,hw,Option.bind_some,↓reduceIte,Bool.false_eq_true,reduceCtorEq,decide_eq_true_eq,rd_,rd_T90,rd_T92])
     rw [hb] at k
     exact k
    ·(refine Ev.shift ?_;simp only [qref01_Meeting.l2,hq,hlen,hw,Option.bind_some,↓reduceIte,Bool.false_eq_true,reduceCtorEq,decide_eq_true_eq,rd_,rd_T90,rd_T92])
     rw [hb] at k
     exact k
   ·intro pre y ys a q e hI hq h0 hlt hwq hrd
    rw [List.all_cons,← Bool.and_assoc] at hI
    refine Or.inl ⟨a && (Go.bits .and .i64 y (i:Int) != 0),hI,fun k=>?_⟩
    cases a
    ·(refine Ev.shift ?_;simp only [qref01_Meeting.l2,h0,hlt,hwq,hrd,Option.bind_some,↓reduceIte,Bool.false_eq_true,reduceCtorEq,decide_eq_true_eq,rd_,rd_T90,rd_T92])
     exact k
    ·(refine Ev.shift ?_;simp only [qref01_Meeting.l2,h0,hlt,hwq,hrd,Option.bind_some,↓reduceIte,Bool.false_eq_true,reduceCtorEq,decide_eq_true_eq,rd_,rd_T90,rd_T92])
     exact k
 refine Ev.fold (xs:=l) (L:=fun (a:Unit) q k=>qref01_Meeting.l0 k l (n:Int) l (l.length:Int) q) (by omega) (fun pre ys a=>True) ?_ ?_ () trivial
 ·intro a q hI hq
  have h4:¬ (l.length:Int) > 1024:=by omega
  (refine Ev.shift ?_;simp only [qref01_Meeting.l0,hq,h4,Option.bind_some,↓reduceIte,Bool.false_eq_true,reduceCtorEq,decide_eq_true_eq,rd_,rd_T90,rd_T92])
  exact L1
 ·intro pre y ys a q e hI hq h0 hlt hwq hrd
  have hy:=hx y (by rw [e];simp)
  have h4:¬ y < 0:=by omega
  have h5:¬ y ≥ ((2 ^ n:Nat):Int):=by omega
  refine Or.inl ⟨(),trivial,fun k=>?_⟩
  (refine Ev.shift ?_;simp only [qref01_Meeting.l0,h0,hlt,hwq,hrd,h4,h3,hsh,h5,Option.bind_some,↓reduceIte,Bool.false_eq_true,reduceCtorEq,decide_eq_true_eq,rd_,rd_T90,rd_T92])
  exact k
theorem ref01_Same_nil:Ev (fun k=>qref01_Same.f k [] []) true:=by
 refine ⟨1,fun k hk=>?_⟩
 obtain ⟨j,rfl⟩:∃ j,k=j+1:=⟨k - 1,by omega⟩
 rfl
theorem ref06_Valid_ev {c:List S92} (hc:OkC c):Ev (fun k=>qref06_Valid.f k c) 0:=by
 have hl:=hc.2.1
 have h2:¬ (c.length:Int) > 10:=by omega
 have hp:=pow10 hl
 simp only [qref06_Valid.f,h2,if_false]
 refine Ev.fold (xs:=c) (L:=fun (a:Unit) i k=>qref06_Valid.l0 k c (c.length:Int) i c) (by omega) (fun pre ys a=>True) ?_ ?_ () trivial
 ·intro a i hI hi
  (refine Ev.shift ?_;simp only [qref06_Valid.l0,hi,Option.bind_some,↓reduceIte,Bool.false_eq_true,reduceCtorEq,decide_eq_true_eq,rd_,rd_T90,rd_T92])
  exact Ev.now _
 ·intro pre y ys a i e hI hi h0 hlt hw hrd
  have hm:=hc.2.2 y (by rw [e];simp)
  unfold OkM at hm
  refine Or.inl ⟨(),trivial,fun k=>?_⟩
  by_cases hf:y.f0=true
  ·rw [if_pos hf] at hm
   have hwt:wt y.f1 < 1000000:=by have:=hm.2.1;omega
   have hu:¬ ((uses y.f1:Nat):Int) ≥ ((2 ^ c.length:Nat):Int):=by have:=hm.2.2;omega
   (refine Ev.shift ?_;simp only [qref06_Valid.l0,h0,hlt,hw,hrd,hf,Option.bind_some,↓reduceIte,Bool.false_eq_true,reduceCtorEq,decide_eq_true_eq,rd_,rd_T90,rd_T92])
   refine Ev.bind1 (ref_Valid_ev _ hwt) ?_
   simp only [hm.1,if_true]
   refine Ev.bind1 (ref_Uses_ev 1000000 _ hwt (by decide)) ?_
   simp only [shl_nat (show c.length≤61 by omega),hu,if_false]
   exact k
  ·rw [if_neg hf] at hm
   (refine Ev.shift ?_;simp only [qref06_Valid.l0,h0,hlt,hw,hrd,hf,hm,Option.bind_some,↓reduceIte,Bool.false_eq_true,reduceCtorEq,decide_eq_true_eq,rd_,rd_T90,rd_T92])
   have hs:Ev (fun k=>qref02_Same.f k 0 [] [] 0 [] []) true:=by
    (refine Ev.shift ?_;simp only [qref02_Same.f,Option.bind_some,↓reduceIte,Bool.false_eq_true,reduceCtorEq,decide_eq_true_eq,rd_,rd_T90,rd_T92])
    refine Ev.bind1 ref01_Same_nil ?_
    (refine Ev.shift ?_;simp only [qref02_Same.j0,Option.bind_some,↓reduceIte,Bool.false_eq_true,reduceCtorEq,decide_eq_true_eq,rd_,rd_T90,rd_T92])
    (refine Ev.shift ?_;simp only [qref02_Same.l0,Option.bind_some,↓reduceIte,Bool.false_eq_true,reduceCtorEq,decide_eq_true_eq,rd_,rd_T90,rd_T92])
    exact Ev.now _
   refine Ev.bind1 hs ?_
   simp only [if_true]
   exact k
theorem ref10_all_ev {c:List S92} (hc:Light c) (hn:c.length≤10):Ev (fun k=>qref10_all.f k c) (allQ c):=by
 have hp:=pow10 hn
 have hsh:shl .i64 1 (c.length:Int)=((2 ^ c.length:Nat):Int):=shl_nat (show c.length≤61 by omega)
 simp only [qref10_all.f]
 unfold allQ
 generalize 2 ^ c.length=m at hp hsh
 refine Ev.count (L:=fun (x3:List Int) i k=>qref10_all.l0 k x3 i c) m (by clear hsh;omega) (fun i x3=>x3=((List.range i).filter fun x=>quo c x).map Int.ofNat) ?_ ?_ [] rfl
 ·intro x3 h
  have hlt:¬ (m:Int) < (m:Int):=Int.lt_irrefl _
  (refine Ev.shift ?_;simp only [qref10_all.l0,hsh,hlt,Option.bind_some,↓reduceIte,Bool.false_eq_true,reduceCtorEq,decide_eq_true_eq,rd_,rd_T90,rd_T92])
  rw [h]
  exact Ev.now _
 ·intro i x3 hi h hw
  have hlt:(i:Int) < (m:Int):=Int.ofNat_lt.2 hi
  have hx:i < 1024:=Nat.lt_of_lt_of_le hi hp
  have hlen:x3.length < 17592186044416:=by
   rw [h,List.length_map]
   have:=List.length_filter_le (fun x=>quo c x) (List.range i)
   rw [List.length_range] at this
   clear hsh hw
   omega
  refine Or.inl ⟨x3++if quo c i=true then [(i:Int)] else [],?_,fun k=>?_⟩
  ·rw [h,List.range_succ,List.filter_append,List.map_append]
   cases hq:quo c i <;> simp [hq]
  ·(refine Ev.shift ?_;simp only [qref10_all.l0,hsh,hlt,hw,Option.bind_some,↓reduceIte,Bool.false_eq_true,reduceCtorEq,decide_eq_true_eq,rd_,rd_T90,rd_T92])
   refine Ev.bind1 (ref_Quorum_ev hc hx) ?_
   cases hq:quo c i
   ·simp only [hq,Bool.false_eq_true,if_false,List.append_nil] at k ⊢
    exact k
   ·simp only [hq,if_true,hlen] at k ⊢
    exact k
theorem ref10_Minimal_ev {c:List S92} (hc:OkC c):Ev (fun k=>qref10_Minimal.f k c) (minQ c,0):=by
 simp only [qref10_Minimal.f]
 refine Ev.bind1 (ref06_Valid_ev hc) ?_
 simp only [if_true]
 refine Ev.bind1 (ref10_all_ev hc.light hc.2.1) ?_
 have hl:=allQ_len c hc.2.1
 have h1:(allQ c).length≤1048576:=by omega
 simp only [qref01_Least.f,if_pos h1,Option.bind_some,refLeast_eq]
 exact Ev.now _
end Go.Proofs.YtkjlcbfjllpcnaaGreat.X
namespace Go.Proofs.YtkjlcbfjllpcnaaGreat.Pure
open Go.RowKit Go.Proofs.YtkjlcbfjllpcnaaGreat.X YtkjlcbfjllpcnaaGreatW.PrintWords YtkjlcbfjllpcnaaGreatW.PrintLast
theorem hal_meet {c:List S92} (hn:c.length≤10) {s:Nat} (hs:s < 2 ^ c.length):hal c s=meetB (minQ c) s:=by
 have hp:=pow10 hn
 have hs10:s < 1024:=by omega
 have hm:meetB (minQ c) s=true ↔ ∀ q,MinQ c q→q &&& s ≠ 0:=by
  unfold meetB
  rw [List.all_eq_true]
  constructor
  ·intro h q mq h0
   have:=h (q:Int) ((minQ_mem hn).2 ⟨q,rfl,mq⟩)
   rw [and_nat' mq.1 hs10,h0] at this
   exact absurd this (by decide)
  ·intro h x hx
   obtain ⟨q,rfl,mq⟩:=(minQ_mem hn).1 hx
   rw [and_nat' mq.1 hs10,bne_iff_ne]
   have:=h q mq
   omega
 have hh:hal c s=true ↔ ∀ q,MinQ c q→q &&& s ≠ 0:=by
  unfold hal
  rw [beq_iff_eq]
  constructor
  ·intro h0 q mq h1
   refine grt_ne (c:=c) mq.1 mq.2.1 (x:=dif (2 ^ c.length - 1) s) (fun i hi=>?_) h0
   have h2:i < c.length:=by
    rcases Nat.lt_or_ge i c.length with h|h
    ·exact h
    ·rw [bit_lt (quo_range hn mq.1 mq.2.1) h] at hi;cases hi
   have h3:=congrArg (fun n=>n.testBit i) h1
   simp only [and_bit,Nat.zero_testBit,hi,Bool.true_and] at h3
   rw [dif_bit,full_bit,h3]
   simpa using h2
  ·intro h
   apply Classical.byContradiction
   intro h0
   obtain ⟨q,mq,hq⟩:=minQ_ex _ (grt_lt c _) (grt_quo h0)
   refine h q mq (eq_bits fun i=>?_)
   rw [and_bit,Nat.zero_testBit]
   cases hi:q.testBit i
   ·rfl
   ·have:=grt_sub c _ i (hq i hi)
    rw [dif_bit,Bool.and_eq_true] at this
    simpa using this.2
 cases hb:hal c s
 ·cases hb2:meetB (minQ c) s
  ·rfl
  ·rw [hh.2 (hm.1 hb2)] at hb;cases hb
 ·exact (hm.2 (hh.1 hb)).symm
theorem hal_list {c:List S92} (hn:c.length≤10):refLeast (meetL (minQ c) (2 ^ c.length))=lstB (hal c) c.length:=by
 have hp:=pow10 hn
 refine sorted_ext (refLeast_spec _).1 (leastS_spec _).1 fun x=>?_
 rw [(refLeast_spec _).2 x,lst_mem hn]
 unfold Mini
 constructor
 ·rintro ⟨h1,h2,h3⟩
  obtain ⟨s,rfl,hs,hb⟩:=meetL_mem.1 h1
  refine ⟨s,rfl,hs,by rw [hal_meet hn hs];exact hb,fun u hu hus=>?_⟩
  have hul:u < 2 ^ c.length:=Nat.lt_of_le_of_lt hus.le hs
  have:=h3 (u:Int) (meetL_mem.2 ⟨u,rfl,hul,by rw [← hal_meet hn hul];exact hu⟩) (vld_nat (by omega)) (by rw [Int.toNat_natCast,Int.toNat_natCast];exact hus)
  omega
 ·rintro ⟨s,rfl,hs,hb,h3⟩
  refine ⟨meetL_mem.2 ⟨s,rfl,hs,by rw [← hal_meet hn hs];exact hb⟩,vld_nat (by omega),fun y hy hv hys=>?_⟩
  obtain ⟨u,rfl,hul,hub⟩:=meetL_mem.1 hy
  rw [Int.toNat_natCast,Int.toNat_natCast] at hys
  rw [h3 u (by rw [hal_meet hn hul];exact hub) hys]
theorem hal_any {c:List S92} (hn:c.length≤10) {v:Nat} (hv:v < 2 ^ c.length):((lstB (hal c) c.length).any fun y=>Go.bits .and .i64 (v:Int) y == y)=hal c v:=by
 have hp:=pow10 hn
 have h:((lstB (hal c) c.length).any fun y=>Go.bits .and .i64 (v:Int) y == y)=true ↔ hal c v=true:=by
  rw [List.any_eq_true]
  constructor
  ·rintro ⟨y,hy,h⟩
   obtain ⟨u,rfl,hu,hb,_⟩:=(lst_mem hn).1 hy
   rw [and_nat' (by omega) (by omega),beq_iff_eq,Nat.and_comm] at h
   have hs:Sub u v:=sub_and.1 (by omega)
   rw [hal_meet hn hu] at hb
   rw [hal_meet hn hv]
   unfold meetB at hb ⊢
   rw [List.all_eq_true] at hb ⊢
   intro x hx
   have h1:=hb x hx
   obtain ⟨q,rfl,mq⟩:=(minQ_mem hn).1 hx
   rw [and_nat' mq.1 (by omega),bne_iff_ne] at h1 ⊢
   intro h2
   apply h1
   have h3:q &&& v=0:=by omega
   have h4:q &&& u=0:=eq_bits fun i=>by
    have h5:=congrArg (fun n=>n.testBit i) h3
    simp only [and_bit,Nat.zero_testBit] at h5
    rw [and_bit,Nat.zero_testBit]
    cases hi:u.testBit i
    ·simp
    ·rw [hs i hi,Bool.and_true] at h5
     rw [h5];rfl
   rw [h4];rfl
  ·intro h
   obtain ⟨y,h1,h2⟩:=lst_ex hn v hv h
   obtain ⟨u,e,hu,_⟩:=(lst_mem hn).1 h1
   have e':y=u:=by omega
   subst e'
   refine ⟨(y:Int),h1,?_⟩
   rw [and_nat' (by omega) (by omega),beq_iff_eq,Nat.and_comm,sub_and.2 h2]
 cases hb:(lstB (hal c) c.length).any fun y=>Go.bits .and .i64 (v:Int) y == y
 ·cases hb2:hal c v
  ·rfl
  ·rw [h.2 hb2] at hb;cases hb
 ·exact (h.1 hb).symm
theorem Halts_ev {c:List S92} (hc:OkC c) {s:Nat} (hs:s < 2 ^ c.length):Ev (fun k=>danger_Halts.f k c (s:Int)) (hal c s,0):=by
 have hn:=hc.2.1
 have hp:=pow10 hn
 have h1:¬ (s:Int) < 0:=by omega
 have h2:¬ (s:Int) > ((2 ^ c.length - 1:Nat):Int):=by omega
 have ha:Ev (fun k=>danger_asked.f k c (s:Int)) 0:=by
  simp only [danger_asked.f,danger_members.f,full_wrap hn,Option.bind_some]
  refine Ev.bind1 (CValid_ev hc.light) ?_
  rw [hc.valC]
  simp only [if_true,h1,h2,if_false]
  exact Ev.now _
 simp only [danger_Halts.f]
 refine Ev.bind1 ha ?_
 simp only [if_true]
 refine Ev.bind1 (halts_ev hc.light hn (by omega)) ?_
 exact Ev.now _
theorem DangerHalting:qlaw16_DangerHalting.Pure:=by
 intro l0 h1 h2 h3
 obtain ⟨s,hs,e⟩:=New_ev l0 (by omega)
 suffices h:EvP (fun k=>qlaw16_DangerHalting.f k l0) (fun r=>r=true) by
  obtain ⟨r,rfl,h⟩:=h
  exact h.rounds
 simp only [qlaw16_DangerHalting.f,e,Option.bind_some]
 refine EvP.bind (Config_ev hs (by decide) (by decide) (by decide)) ?_
 rintro ⟨c,s1⟩ ⟨⟨hc,_⟩,h4⟩
 simp only at hc h4 ⊢
 have hn10:=hc.2.1
 have hp:=pow10 hn10
 have hp0:=Nat.two_pow_pos c.length
 refine EvP.bind (EvP.ofEv (Halting_ev hc.light hn10 hc.valC)) ?_
 rintro r rfl
 refine EvP.bind (EvP.ofEv (ref10_Minimal_ev hc)) ?_
 rintro r rfl
 have hmr:∀ x∈minQ c,0≤x∧x < ((2 ^ c.length:Nat):Int):=fun x hx=>by
  obtain ⟨q,rfl,mq⟩:=(minQ_mem hn10).1 hx
  have:=quo_range hn10 mq.1 mq.2.1
  omega
 refine EvP.bind (EvP.ofEv (Meeting_ev hn10 (minQ_len c hn10) hmr)) ?_
 rintro r rfl
 rw [hal_list hn10]
 simp only [if_true]
 have hll:=lst_len (hal c) hn10
 refine EvP.bind (EvP.ofEv (Ints_ev (by omega))) ?_
 rintro r rfl
 simp only [decide_true,Bool.not_true]
 refine EvP.shift ?_
 simp only [qlaw16_DangerHalting.j0,Bool.false_eq_true,if_false]
 have hany:∀ v:Nat,v < 2 ^ c.length→((lstB (hal c) c.length).any fun y=>Go.bits .and .i64 (v:Int) y == y)=hal c v:=fun v hv=>hal_any hn10 hv
 have hhal:∀ v:Nat,v < 2 ^ c.length→Ev (fun k=>danger_Halts.f k c (v:Int)) (hal c v,0):=fun v hv=>Halts_ev hc hv
 have hsh:shl .i64 1 (c.length:Int)=((2 ^ c.length:Nat):Int):=shl_nat (by omega)
 generalize lstB (hal c) c.length=M at hll hany
 generalize 2 ^ c.length=N at hp hp0 hany hhal hsh
 refine EvP.loop (L:=fun (x:Nat × Int) k=>qlaw16_DangerHalting.l0 k M (x.1:Int) s x.2 c) (fun x=>x.1≤20∧0≤x.2) (fun x=>20 - x.1) ?_ (0,s1) ⟨by simp,h4⟩
 rintro ⟨i,s2⟩ ⟨h8,h9⟩ ih
 simp only at h8 h9 ih ⊢
 by_cases h30:i < 20
 case neg =>
  have h:¬ (i:Int) < 20:=by clear hsh;omega
  refine EvP.shift ?_
  simp only [qlaw16_DangerHalting.l0,h,if_false]
  refine EvP.bind (EvP.ofEv awake16_ev) ?_
  rintro r rfl
  exact EvP.now rfl
 have hi30:(i:Int) < 20:=by clear hsh;omega
 refine EvP.shift ?_
 simp only [qlaw16_DangerHalting.l0,hi30,if_true,hsh]
 refine EvP.bind (tN hs h9 (by clear hsh;omega) (by clear hsh;omega)) ?_
 rintro ⟨v,s3⟩ ⟨⟨h10,h11⟩,h12⟩
 simp only at h10 h11 h12 ⊢
 obtain ⟨v,rfl⟩:=Int.eq_ofNat_of_zero_le h10
 have hv:v < N:=Int.ofNat_lt.1 h11
 obtain ⟨r,hr,nxt⟩:=ih (i+1,s3) ⟨by show i+1≤20;clear hsh;omega,h12⟩ (by show 20 - (i+1) < 20 - i;clear hsh;omega)
 have e1:wrap64 ((i:Int)+1)=((i+1:Nat):Int):=by clear hsh;exact w64 (by omega) (by omega)
 refine ⟨r,hr,?_⟩
 have hsv:=hany v hv
 have hhv:=hhal v hv
 clear hsh
 refine Ev.fold (xs:=M) (L:=fun (b:Bool) q k=>qlaw16_DangerHalting.l1 k M (i:Int) (v:Int) b M (M.length:Int) q s s3 c) (by omega) (fun pre ys b=>(b || ys.any fun y=>Go.bits .and .i64 (v:Int) y == y)=hal c v) ?_ ?_ false (by simpa using hsv)
 ·intro b q hI hq
  rw [List.any_nil,Bool.or_false] at hI
  subst hI
  refine Ev.shift ?_
  simp only [qlaw16_DangerHalting.l1,hq,if_false]
  refine Ev.bind1 hhv ?_
  simp only [if_true,bne_self_eq_false,Bool.false_eq_true,if_false,e1]
  exact nxt
 ·intro pre y ys b q e hI hq h0 hlt hwq hrd
  rw [List.any_cons,← Bool.or_assoc] at hI
  refine Or.inl ⟨b || (Go.bits .and .i64 (v:Int) y == y),hI,fun k=>?_⟩
  refine Ev.shift ?_
  cases b
  ·rw [Bool.false_or] at k
   simp only [qlaw16_DangerHalting.l1,h0,hlt,hwq,if_true,Bool.false_eq_true,if_false,rd_,hrd]
   exact k
  ·rw [Bool.true_or] at k
   simp only [qlaw16_DangerHalting.l1,h0,hlt,hwq,if_true]
   exact k
end Go.Proofs.YtkjlcbfjllpcnaaGreat.Pure
