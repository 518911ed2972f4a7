/- Part 2 of the proof: what the program's functions do, shown of them one by one, over memory by names. -/
import Derived.Test.YtpllomffpohefaaGreatPA
import Derived.RangeFuncLeaves
import Derived.RangeFuncSeq
import Derived.RangeFuncRecord
import Derived.Attr
set_option linter.unusedVariables false
set_option linter.unusedSimpArgs false
namespace Go.Ab
open Go
def dropL:List Ins→List Hold→List Hold
 | [],h=>h
 | i::r,h=>dropH i.d (dropL r h)
def reach (ops:Array Oper):Nat→Nat→Nat→Bool
 | 0,_,_=>false
 | f+1,i,j=>match ops[j]? with
  | some o=>(o.after.toList.any fun e=>Region.binds .any e&&e.on==i)||o.after.toList.any fun e=>Region.binds .any e&&reach ops f i e.on
  | none=>false
def chkPre (rch:Nat→Nat→Bool) (j:Ins):List Ins→Bool
 | []=>true
 | i::r=>chkPre rch j r&&(swapOk i j (dropL r j.hold)||rch i.n j.n)
def canon (rch:Nat→Nat→Bool):List Ins→List Ins→Bool
 | _,[]=>true
 | pre,j::r=>chkPre rch j pre&&canon rch (pre++[j]) r
def topo (ops:Array Oper):List Nat→List Ins→Bool
 | _,[]=>true
 | pre,j::r=>(match ops[j.n]? with | some o=>o.after.toList.all fun e => !Region.binds .any e||hasN e.on pre | none=>false)&&topo ops (j.n::pre) r
section
variable {rch : Nat → Nat → Bool}
theorem dropH_sub {d:Option Nat} {h:List Hold} : ∀ p∈dropH d h,p∈h:=by
 intro p hp
 cases d with
 | none=>exact hp
 | some d=>exact (List.mem_filter.1 hp).1
theorem dropH_mono {d:Option Nat} {h h':List Hold} (hh : ∀ p∈h,p∈h') : ∀ p∈dropH d h,p∈dropH d h':=by
 intro p hp
 cases d with
 | none=>exact hh p hp
 | some d =>
  have:=List.mem_filter.1 hp
  exact List.mem_filter.2 ⟨hh p this.1,this.2⟩
theorem dropL_sub {l l':List Ins} (h:l'.Sublist l) {hj:List Hold} : ∀ p∈dropL l hj,p∈dropL l' hj:=by
 induction h with
 | slnil=>exact fun _ h=>h
 | cons a _ ih=>exact fun p hp=>ih p (dropH_sub p hp)
 | cons_cons a _ ih=>exact dropH_mono ih
theorem swapOk_mono {i j:Ins} {h h':List Hold} (hh : ∀ p∈h,p∈h') (he:h=[]→h'=[]) (hs:swapOk i j h=true):swapOk i j h'=true:=by
 simp only [swapOk,Bool.and_eq_true] at hs ⊢
 refine ⟨hs.1,?_⟩
 have h2:=hs.2
 have key : ∀ d:Nat,(!hasN d i.looks&&h.any fun p=>p.1==i.g&&p.2.1==d&&p.2.2.same i.a)=true→(!hasN d i.looks&&h'.any fun p=>p.1==i.g&&p.2.1==d&&p.2.2.same i.a)=true:=by
  intro d hd
  rw [Bool.and_eq_true] at hd ⊢
  refine ⟨hd.1,?_⟩
  obtain ⟨p,hp,hpp⟩:=List.any_eq_true.1 hd.2
  exact List.any_eq_true.2 ⟨p,hh p hp,hpp⟩
 cases hi:i.a.cl <;> cases hj:j.a.cl <;> simp only [hi,hj] at h2 ⊢ <;> first | exact h2 | skip
 ·rw [Bool.and_eq_true] at h2 ⊢
  refine ⟨h2.1,?_⟩
  cases hd:i.d with
  | none=>simp [hd] at h2
  | some d=>simp only [hd] at h2; exact key d h2.2
 ·rw [Bool.and_eq_true] at h2 ⊢
  refine ⟨h2.1,?_⟩
  cases hd:i.d with
  | none=>simp [hd] at h2
  | some d=>simp only [hd] at h2; exact key d h2.2
 ·simp only [Bool.and_eq_true,List.isEmpty_iff] at h2 ⊢
  exact ⟨⟨h2.1.1,he h2.1.2⟩,h2.2⟩
theorem chkPre_sub {j:Ins} {l l':List Ins} (h:l'.Sublist l) (he : ∀ l:List Ins,dropL l j.hold=[]→j.hold=[]∨j.a.cl≠.a) (hc:chkPre rch j l=true):chkPre rch j l'=true:=by
 induction h with
 | slnil=>rfl
 | cons a _ ih=>simp only [chkPre,Bool.and_eq_true] at hc; exact ih hc.1
 | @cons_cons l1 l2 a hsub ih =>
  simp only [chkPre,Bool.and_eq_true,Bool.or_eq_true] at hc ⊢
  refine ⟨ih hc.1,?_⟩
  rcases hc.2 with h2 | h2
  ·left
   by_cases hja:j.a.cl=.a
   ·refine swapOk_mono (dropL_sub hsub) (fun h0=>?_) h2
    have:j.hold=[]:=(he l2 h0).resolve_right (fun h=>h hja)
    rw [this]
    have : ∀ l:List Ins,dropL l []=[]:=by
     intro l
     induction l with
     | nil=>rfl
     | cons x r ih=>simp only [dropL,ih]; cases x.d <;> rfl
    exact this _
   ·have h3:=h2
    simp only [swapOk,Bool.and_eq_true] at h2 h3 ⊢
    refine ⟨h2.1,?_⟩
    have h4:=h2.2
    have key : ∀ d:Nat,(!hasN d a.looks&&(dropL l2 j.hold).any fun p=>p.1==a.g&&p.2.1==d&&p.2.2.same a.a)=true→(!hasN d a.looks&&(dropL l1 j.hold).any fun p=>p.1==a.g&&p.2.1==d&&p.2.2.same a.a)=true:=by
     intro d hd
     rw [Bool.and_eq_true] at hd ⊢
     refine ⟨hd.1,?_⟩
     obtain ⟨p,hp,hpp⟩:=List.any_eq_true.1 hd.2
     exact List.any_eq_true.2 ⟨p,dropL_sub hsub p hp,hpp⟩
    cases hi:a.a.cl <;> cases hj:j.a.cl <;> simp only [hi,hj] at h4 ⊢ <;> first | exact h4 | (exfalso; exact hja hj) | skip
    ·rw [Bool.and_eq_true] at h4 ⊢
     refine ⟨h4.1,?_⟩
     cases hd:a.d with
     | none=>simp [hd] at h4
     | some d=>simp only [hd] at h4; exact key d h4.2
    ·rw [Bool.and_eq_true] at h4 ⊢
     refine ⟨h4.1,?_⟩
     cases hd:a.d with
     | none=>simp [hd] at h4
     | some d=>simp only [hd] at h4; exact key d h4.2
  ·exact .inr h2
end
def holdA (j:Ins):Bool:=match j.a.cl with
 | .a=>j.hold.isEmpty
 | _=>true
def Canon (rch:Nat→Nat→Bool) (l:List Ins):Prop := ∀ pre j post,l=pre++j::post→chkPre rch j pre=true
theorem canon_spec {rch:Nat→Nat→Bool} : ∀ (l p:List Ins),canon rch p l=true → ∀ pre j post,l=pre++j::post→chkPre rch j (p++pre)=true
 | [],_,_,pre,j,post,h=>by simp at h
 | x::r,p,hc,pre,j,post,h=>by
  simp only [canon,Bool.and_eq_true] at hc
  cases pre with
  | nil =>
   simp only [List.nil_append,List.cons.injEq] at h
   obtain ⟨rfl,rfl⟩:=h
   simpa using hc.1
  | cons y pre =>
   simp only [List.cons_append,List.cons.injEq] at h
   obtain ⟨rfl,rfl⟩:=h
   have:=canon_spec _ _ hc.2 pre j post rfl
   simpa using this
theorem Canon.of {rch:Nat→Nat→Bool} {l:List Ins} (h:canon rch [] l=true):Canon rch l:=fun pre j post e=>by simpa using canon_spec l [] h pre j post e
theorem Canon.drop {rch:Nat→Nat→Bool} {pre post:List Ins} {x:Ins} (hh : ∀ j∈pre++x::post,holdA j=true) (h:Canon rch (pre++x::post)):Canon rch (pre++post):=by
 intro p j q e
 have hjm:j∈pre++x::post:=by
  have:j∈pre++post:=by rw [e]; simp
  rcases List.mem_append.1 this with h1 | h1
  ·simp [h1]
  ·simp [h1]
 have hee : ∀ l:List Ins,dropL l j.hold=[]→j.hold=[]∨j.a.cl≠.a:=by
  intro l _
  have:=hh j hjm
  unfold holdA at this
  cases hc:j.a.cl <;> simp only [hc] at this
  case a=>exact .inl (by simpa using this)
  all_goals exact .inr (by simp)
 rcases List.append_eq_append_iff.1 e with ⟨as,h1,h2⟩ | ⟨bs,h1,h2⟩
 ·
  have:=h (pre++x::as) j q (by rw [h2]; simp)
  rw [h1]
  refine chkPre_sub ?_ hee this
  exact List.Sublist.append (List.Sublist.refl _) (List.sublist_cons_self _ _)
 ·cases bs with
  | nil =>
   simp only [List.append_nil,List.nil_append] at h1 h2
   have:=h (p++[x]) j q (by rw [← h2,h1]; simp)
   exact chkPre_sub (by simp) hee this
  | cons y bs =>
   simp only [List.cons_append,List.cons.injEq] at h2
   obtain ⟨rfl,h2⟩:=h2
   exact h p j (bs++x::post) (by rw [h1]; simp)
section
variable {P : Program} {rch : Nat → Nat → Bool}
theorem cl_pr_q {a:AI} (h:a.cl=.p∨a.cl=.r):a.q=none ∧ ∀ U,usedBy a U=U:=by
 cases a <;> first | (exfalso; rcases h with h | h <;> cases h; done) | exact ⟨rfl,fun _=>rfl⟩
theorem usedBy_a {a:AI} (h:a.cl=.a) {q:Nat} (hq:a.q=some q) : ∀ U,usedBy a U=q::U:=by
 cases a <;> first | (cases h; done) | skip
 all_goals (intro U; simp only [usedBy,hq])
theorem swapOk_cls {i j:Ins} {hj:List Hold} (hs:swapOk i j hj=true) (hja:j.a.cl=.a):i.a.cl=.p∨i.a.cl=.r∨i.a.cl=.a:=by
 simp only [swapOk,Bool.and_eq_true] at hs
 cases hi:i.a.cl <;> simp [hi,hja] at hs <;> simp
theorem pclean_step {i:Ins} {U:List Nat} {K:Fr→AH→Prop} {t:Fr} {H:AH} (hi:i.a.cl=.p∨i.a.cl=.r∨i.a.cl=.a) (hb:i.bm=0) (hp:PClean H U) (h:vci P i K t H) :
  vci P i (fun t H=>PClean H (usedBy i.a U)∧K t H) t H:=by
 unfold vci at *
 have hmore:PClean H (usedBy i.a U):=by
  rcases hi with h1 | h1 | h1
  ·rw [(cl_pr_q (.inl h1)).2]; exact hp
  ·rw [(cl_pr_q (.inr h1)).2]; exact hp
  ·cases hq:i.a.q with
   | none=>exfalso; cases hia:i.a <;> simp [hia,AI.cl,AI.q] at h1 hq
   | some q=>rw [usedBy_a h1 hq]; exact hp.more fun x hx=>by simp [hx]
 cases hg:gd i.g t with
 | none=>simp [hg] at h
 | some b =>
  cases b with
  | false =>
   simp only [hg] at h ⊢
   rw [hb,bmp_zero] at h ⊢
   exact ⟨hmore,h⟩
  | true =>
   simp only [hg,vca] at h ⊢
   rcases hi with h1 | h1 | h1
   ·obtain ⟨v,v1,v2,v3⟩:=(Out_pr (.inl h1)).1 h
    exact (Out_pr (.inl h1)).2 ⟨v,v1,v2,hmore,v3⟩
   ·obtain ⟨v,v1,v2,v3⟩:=(Out_pr (.inr h1)).1 h
    exact (Out_pr (.inr h1)).2 ⟨v,v1,v2,hmore,v3⟩
   ·obtain ⟨q,v,o,q1,q2,q3,q4,q5⟩:=(Out_a h1).1 h
    refine (Out_a h1).2 ⟨q,v,o,q1,q2,q3,q4,?_,q5⟩
    rw [usedBy_a h1 q1]
    exact hp.new q3
theorem swapOk_bm {i j:Ins} {hj:List Hold} (hs:swapOk i j hj=true):i.bm=0:=by
 simp only [swapOk,Bool.and_eq_true] at hs
 have h2:=hs.2
 cases hi:i.a.cl <;> cases hja:j.a.cl <;> simp only [hi,hja,Bool.and_eq_true,beq_iff_eq] at h2
 all_goals first | exact h2 | exact h2.1 | exact h2.1.1.1.2 | exact h2.1.2 | cases h2
theorem seg_congr : ∀ (l:List Ins) (U U':List Nat),(∀ x,x∈U↔x∈U')→segOk U l=segOk U' l ∧ ∀ x,x∈usedL U l↔x∈usedL U' l:=by
 intro l
 induction l with
 | nil=>intro U U' h; exact ⟨rfl,h⟩
 | cons i r ih =>
  intro U U' h
  have h1:segIns U i=segIns U' i:=by
   unfold segIns
   have hcon : ∀ q,U.contains q=U'.contains q:=fun q=>by
    have:=h q
    rw [Bool.eq_iff_iff]; simpa using this
   have hemp:U.isEmpty=U'.isEmpty:=by
    cases U with
    | nil=>cases U' with
     | nil=>rfl
     | cons x l=>exact absurd ((h x).2 (by simp)) (by simp)
    | cons x l=>cases U' with
     | nil=>exact absurd ((h x).1 (by simp)) (by simp)
     | cons y l=>rfl
   cases hq:i.a.q <;> cases hia:i.a <;> simp only [hcon,hemp]
  have h2 : ∀ x,x∈usedBy i.a U↔x∈usedBy i.a U':=by
   intro x
   unfold usedBy
   cases hia:i.a <;> simp only [AI.q,List.mem_cons,h x]
  simp only [segOk,usedL]
  rw [h1,(ih _ _ h2).1]
  exact ⟨rfl,(ih _ _ h2).2⟩
theorem segIns_pr {i:Ins} {U:List Nat} (h:i.a.cl=.p∨i.a.cl=.r):segIns U i=true:=by
 unfold segIns
 cases hia:i.a <;> simp [hia,AI.cl,AI.q] at h ⊢
theorem segIns_a {i:Ins} {U:List Nat} {q:Nat} (h:i.a.cl=.a) (hq:i.a.q=some q):segIns U i=true↔q ∉ U:=by
 unfold segIns
 cases hia:i.a <;> simp [hia,AI.cl,AI.q] at h hq ⊢ <;> subst hq <;> exact Iff.rfl
theorem a_q {i:AI} (h:i.cl=.a) : ∃ q,i.q=some q:=by
 cases i <;> simp [AI.cl,AI.q] at h ⊢
theorem seg_swap {i j:Ins} {hj:List Hold} {r:List Ins} {U:List Nat} (hsw:swapOk i j hj=true) (hs:segOk U (i::j::r)=true) :
  segOk U (j::i::r)=true ∧ ∀ x,x∈usedL U (j::i::r)↔x∈usedL U (i::j::r):=by
 simp only [segOk,usedL,Bool.and_eq_true] at hs ⊢
 obtain ⟨h1,h2,h3⟩:=hs
 by_cases hpr:i.a.cl=.p∨i.a.cl=.r
 ·have hu:=(cl_pr_q hpr).2
  rw [hu] at h2 h3
  refine ⟨⟨h2,segIns_pr hpr,?_⟩,?_⟩
  ·rw [hu]; exact h3
  ·simp only [hu,implies_true]
 ·have hia:i.a.cl=.a:=by
   simp only [swapOk,Bool.and_eq_true] at hsw
   cases hi:i.a.cl <;> simp [hi] at hpr hsw <;> rfl
  obtain ⟨q,hq⟩:=a_q hia
  have hui:=usedBy_a hia hq
  have hpj:j.a.cl=.p∨j.a.cl=.a:=by
   simp only [swapOk,Bool.and_eq_true] at hsw
   cases hj:j.a.cl <;> simp [hia,hj] at hsw <;> simp
  rcases hpj with hjp | hja
  ·have huj:=(cl_pr_q (a:=j.a) (.inl hjp)).2
   simp only [huj] at h2 h3 ⊢
   exact ⟨⟨segIns_pr (.inl hjp),h1,h3⟩,fun _=>(by simp)⟩
  ·obtain ⟨q',hq'⟩:=a_q hja
   have huj:=usedBy_a hja hq'
   simp only [hui,huj] at h2 h3 ⊢
   rw [segIns_a hia hq] at h1
   rw [segIns_a hja hq'] at h2
   have hperm : ∀ x,x∈q'::q::U↔x∈q::q'::U:=by intro x; simp only [List.mem_cons]; grind
   refine ⟨⟨(segIns_a hja hq').2 fun h=>h2 (by simp [h]),(segIns_a hia hq).2 fun h=>?_,?_⟩,fun x=>((seg_congr r _ _ hperm).2 x).symm⟩
   ·rcases List.mem_cons.1 h with h | h
    ·exact h2 (by simp [h])
    ·exact h1 h
   ·rw [← (seg_congr r _ _ hperm).1]; exact h3
theorem seg_front : ∀ (pre:List Ins) {j:Ins} {post:List Ins} {U:List Nat},chkPre rch j pre=true→(∀ i∈pre,rch i.n j.n=false)→segOk U (pre++j::post)=true →
  segOk U (j::(pre++post))=true∧(∀ x,x∈usedL U (j::(pre++post))↔x∈usedL U (pre++j::post)):=by
 intro pre
 induction pre with
 | nil=>intro j post U _ _ hs; exact ⟨hs,fun _=>Iff.rfl⟩
 | cons i r ih =>
  intro j post U hc hr hs
  simp only [chkPre,Bool.and_eq_true,Bool.or_eq_true] at hc
  have hsw:swapOk i j (dropL r j.hold)=true:=hc.2.resolve_right (by rw [hr i (by simp)]; simp)
  have hs0:segOk U (i::(r++j::post))=true:=hs
  simp only [segOk,Bool.and_eq_true] at hs0
  obtain ⟨h1,h2⟩:=ih (j:=j) (post:=post) (U:=usedBy i.a U) hc.1 (fun i hi=>hr i (by simp [hi])) hs0.2
  have h3:segOk U (i::j::(r++post))=true:=by
   rw [segOk,Bool.and_eq_true]; exact ⟨hs0.1,h1⟩
  obtain ⟨h4,h5⟩:=seg_swap hsw h3
  exact ⟨h4,fun x=>(h5 x).trans (h2 x)⟩
theorem front : ∀ (pre:List Ins) {j:Ins} {post:List Ins} {U:List Nat} {K:Fr→AH→Prop} {t:Fr} {H:AH},chkPre rch j pre=true→(∀ i∈pre,rch i.n j.n=false)→segOk U (pre++j::post)=true →
  (j.a.cl=.a→PClean H U)→vcr P (pre++j::post) K t H→vcr P ({ j with hold:=dropL pre j.hold }::(pre++post)) K t H:=by
 intro pre
 induction pre with
 | nil=>intro j post U K t H _ _ hs _ h; exact h
 | cons i r ih =>
  intro j post U K t H hc hr hs hp h
  have hc0:=hc
  simp only [chkPre,Bool.and_eq_true,Bool.or_eq_true] at hc
  have hsw:swapOk i j (dropL r j.hold)=true:=hc.2.resolve_right (by rw [hr i (by simp)]; simp)
  have hbm:=swapOk_bm hsw
  have hs0:segOk U (i::(r++j::post))=true:=hs
  simp only [segOk,Bool.and_eq_true] at hs0
  have h0:vci P i (fun t H=>vcr P (r++j::post) K t H) t H:=h
  have h1:vci P i (fun t H=>vcr P ({ j with hold:=dropL r j.hold }::(r++post)) K t H) t H:=by
   by_cases hja:j.a.cl=.a
   ·refine vci_mono ?_ (pclean_step (swapOk_cls hsw hja) hbm (hp hja) h0)
    rintro t' H' ⟨hp',h'⟩
    exact ih hc.1 (fun i hi=>hr i (by simp [hi])) hs0.2 (fun _=>hp') h'
   ·refine vci_mono ?_ h0
    intro t' H' h'
    exact ih hc.1 (fun i hi=>hr i (by simp [hi])) hs0.2 (fun h=>absurd h hja) h'
  have h2:=swap (U:=U) (K:=fun t H=>vcr P (r++post) K t H) hsw ?_ h1
  ·exact h2
  ·intro hja
   refine ⟨hp hja,fun q hq=>?_,fun q hq=>?_⟩
   ·rcases swapOk_cls hsw hja with h3 | h3 | h3
    ·rw [(cl_pr_q (.inl h3)).1] at hq; cases hq
    ·rw [(cl_pr_q (.inr h3)).1] at hq; cases hq
    ·exact (segIns_a h3 hq).1 hs0.1
   ·have h4:=(seg_front (i::r) hc0 hr hs).1
    simp only [segOk,Bool.and_eq_true] at h4
    exact (segIns_a hja hq).1 h4.1
end
section
variable {B : Nat} {ro : Option Nat} {P : Program} {ρ0 : Nm → Loc} {H0 : AH} {w0 : World} {N : Nat} {ρ : Nm → Loc} {t : Fr} {H : AH} {a : Act} {w : World} {ops : Array Oper} {Q : Exit → Act → World → Prop}
def Down (ops:Array Oper) (listed:Array Bool):Prop := ∀ k o,ops[k]? = some o→listed.getD k false=true → ∀ e∈o.after,Region.binds .any e=true→listed.getD e.on false=true
theorem reach_listed {listed:Array Bool} (hd:Down ops listed) : ∀ (f i j:Nat),reach ops f i j=true→(∀ o,ops[j]? = some o → ∀ e∈o.after,Region.binds .any e=true→listed.getD e.on false=true)→listed.getD i false=true
 | 0,i,j,h,_=>by simp [reach] at h
 | f+1,i,j,h,hj=>by
  simp only [reach] at h
  cases ho:ops[j]? with
  | none=>simp [ho] at h
  | some o =>
   simp only [ho,Bool.or_eq_true,List.any_eq_true,Bool.and_eq_true,beq_iff_eq] at h
   rcases h with ⟨e,he,hb,rfl⟩ | ⟨e,he,hb,hr⟩
   ·exact hj o ho e (by simpa using he) hb
   ·have h1:=hj o ho e (by simpa using he) hb
    refine reach_listed hd f i e.on hr fun o' ho' e' he' hb'=>hd e.on o' ho' h1 e' he' hb'
structure Inv (ops:Array Oper) (l:List Ins) (listed:Array Bool):Prop where
 sz:listed.size=ops.size
 idx : ∀ k,k<ops.size→(listed.getD k true=false↔k∈l.map (·.n))
 nd:(l.map (·.n)).Nodup
 inb : ∀ i∈l,i.n<ops.size
 down:Down ops listed
theorem Inv.split {l:List Ins} {listed:Array Bool} (h:Inv ops l listed) {k:Nat} (hk:k∈Region.ready .any ops listed) :
  ∃ pre j post,l=pre++j::post∧j.n=k∧(∀ o,ops[k]? = some o → ∀ e∈o.after,Region.binds .any e=true→listed.getD e.on false=true):=by
 obtain ⟨h0,o,ho,hall⟩:=mem_ready.1 hk
 have hlt:k<ops.size:=(Array.getElem?_eq_some_iff.1 ho).1
 obtain ⟨j,hj,rfl⟩:=List.mem_map.1 ((h.idx k hlt).1 h0)
 obtain ⟨pre,post,rfl⟩:=List.append_of_mem hj
 exact ⟨pre,j,post,rfl,rfl,fun o' ho'=>by rw [ho] at ho'; cases ho'; exact hall⟩
theorem getD_false {listed:Array Bool} {k:Nat} (hk:k<listed.size):listed.getD k false=listed.getD k true:=by simp [hk]
theorem Inv.unlisted {l:List Ins} {listed:Array Bool} (h:Inv ops l listed) {i:Ins} (hi:i∈l):listed.getD i.n false=false:=by
 have h1:=h.inb i hi
 rw [getD_false (by rw [h.sz]; exact h1)]
 exact (h.idx _ h1).2 (List.mem_map.2 ⟨i,hi,rfl⟩)
theorem Inv.next {pre post:List Ins} {j:Ins} {listed:Array Bool} (h:Inv ops (pre++j::post) listed)
  (hall : ∀ o,ops[j.n]? = some o → ∀ e∈o.after,Region.binds .any e=true→listed.getD e.on false=true):Inv ops (pre++post) (listed.setIfInBounds j.n true):=by
 have hnd:=h.nd
 simp only [List.map_append,List.map_cons] at hnd
 have hnm:j.n ∉ (pre++post).map (·.n):=by
  rw [List.nodup_append] at hnd
  obtain ⟨h1,h2,h3⟩:=hnd
  rw [List.nodup_cons] at h2
  simp only [List.map_append,List.mem_append]
  rintro (h4 | h4)
  ·exact h3 _ h4 _ (by simp) rfl
  ·exact h2.1 h4
 have hjlt:j.n<ops.size:=h.inb j (by simp)
 refine ⟨by simp [h.sz],?_,?_,?_,?_⟩
 ·intro k hk
  by_cases hkj:j.n=k
  ·subst hkj
   have:(listed.setIfInBounds j.n true).getD j.n true=true:=by simp [h.sz,hjlt]
   rw [this]
   constructor
   ·intro h; cases h
   ·intro h; exact absurd h hnm
  ·rw [getD_set_ne true hkj,h.idx k hk]
   simp only [List.map_append,List.map_cons,List.mem_append,List.mem_cons]
   constructor
   ·rintro (h1 | h1 | h1)
    ·exact .inl h1
    ·exact absurd h1.symm hkj
    ·exact .inr h1
   ·rintro (h1 | h1)
    ·exact .inl h1
    ·exact .inr (.inr h1)
 ·refine List.Nodup.sublist ?_ h.nd
  exact List.Sublist.map _ (List.Sublist.append (List.Sublist.refl _) (List.sublist_cons_self _ _))
 ·intro i hi
  refine h.inb i ?_
  rcases List.mem_append.1 hi with h1 | h1
  ·simp [h1]
  ·simp [h1]
 ·intro k o ho hk e he hb
  by_cases hkj:j.n=k
  ·subst hkj
   exact getD_set_true (hall o ho e he hb)
  ·rw [getD_set_ne false hkj] at hk
   exact getD_set_true (h.down k o ho hk e he hb)
def Topo (ops:Array Oper) (l:List Ins) (listed:Array Bool):Prop := ∀ pre j post,l=pre++j::post → ∃ o,ops[j.n]? = some o ∧ ∀ e∈o.after,Region.binds .any e=true→listed.getD e.on false=true∨e.on∈pre.map (·.n)
theorem Topo.next {pre post:List Ins} {j:Ins} {listed:Array Bool} (h:Topo ops (pre++j::post) listed) (hjs:j.n<listed.size):Topo ops (pre++post) (listed.setIfInBounds j.n true):=by
 intro p k q e
 rcases List.append_eq_append_iff.1 e with ⟨as,h1,h2⟩ | ⟨bs,h1,h2⟩
 ·obtain ⟨o,ho,hall⟩:=h (pre++j::as) k q (by rw [h2]; simp)
  refine ⟨o,ho,fun e he hb=>?_⟩
  rcases hall e he hb with h3 | h3
  ·exact .inl (getD_set_true h3)
  ·rw [h1]
   simp only [List.map_append,List.map_cons,List.mem_append,List.mem_cons] at h3 ⊢
   rcases h3 with h3 | h3 | h3
   ·exact .inr (.inl h3)
   ·left; rw [h3]; simp [hjs]
   ·exact .inr (.inr h3)
 ·cases bs with
  | nil =>
   simp only [List.append_nil,List.nil_append] at h1 h2
   obtain ⟨o,ho,hall⟩:=h (p++[j]) k q (by rw [← h2,h1]; simp)
   refine ⟨o,ho,fun e he hb=>?_⟩
   rcases hall e he hb with h3 | h3
   ·exact .inl (getD_set_true h3)
   ·simp only [List.map_append,List.map_cons,List.map_nil,List.mem_append,List.mem_singleton] at h3
    rcases h3 with h3 | h3
    ·exact .inr h3
    ·left; rw [h3]; simp [hjs]
  | cons y bs =>
   simp only [List.cons_append,List.cons.injEq] at h2
   obtain ⟨rfl,h2⟩:=h2
   obtain ⟨o,ho,hall⟩:=h p k (bs++j::post) (by rw [h1]; simp)
   exact ⟨o,ho,fun e he hb=>(hall e he hb).imp getD_set_true id⟩
theorem Topo.ready {j:Ins} {r:List Ins} {listed:Array Bool} (ht:Topo ops (j::r) listed) (h:Inv ops (j::r) listed):j.n∈Region.ready .any ops listed:=by
 obtain ⟨o,ho,hall⟩:=ht [] j r rfl
 rw [mem_ready]
 refine ⟨(h.idx _ (h.inb j (by simp))).2 (by simp),o,ho,fun e he hb=>?_⟩
 exact (hall e he hb).resolve_right (by simp)
theorem any_sound {f:Nat} {K:Fr→AH→Prop} : ∀ (n:Nat) (l:List Ins) (U:List Nat) (listed:Array Bool) (t:Fr) (H:AH) (ρ:Nm→Loc) (a:Act) (w:World),l.length=n→Canon (reach ops f) l→(∀ i∈l,holdA i=true) →
  (∀ i∈l,chkIns P ops N i=true)→segOk U l=true→Inv ops l listed→Topo ops l listed→vcr P l K t H→St B ρ0 H0 w0 N ρ t H a w→PClean H U →
  (∀ t' H' ρ' a' w' U',(∀ x,x∈U'↔x∈usedL U l)→K t' H'→St B ρ0 H0 w0 N ρ' t' H' a' w'→PClean H' U'→Q .normal a' w')→wpAnyIn (Fe ro) 0 P .any ops Q n listed a w:=by
 intro n
 induction n with
 | zero =>
  intro l U listed t H ρ a w hl _ _ _ _ hinv _ h s hp hk
  have:l=[]:=by cases l with | nil=>rfl | cons x r=>simp at hl
  subst this
  refine ⟨?_,hk t H ρ a w U (fun _=>Iff.rfl) h s hp⟩
  cases hr:Region.ready .any ops listed with
  | nil=>rfl
  | cons x r =>
   obtain ⟨pre,j,post,e,_⟩:=hinv.split (k:=x) (by rw [hr]; simp)
   simp at e
 | succ n ih =>
  intro l U listed t H ρ a w hl hcan hh hci hs hinv htop h s hp hk
  refine ⟨fun hr=>?_,fun k hk'=>?_⟩
  ·exfalso
   cases l with
   | nil=>simp at hl
   | cons j r =>
    have:=htop.ready hinv
    rw [hr] at this; cases this
  ·obtain ⟨pre,j,post,rfl,rfl,hall⟩:=hinv.split hk'
   have hnr : ∀ i∈pre,reach ops f i.n j.n=false:=by
    intro i hi
    cases hrr:reach ops f i.n j.n with
    | false=>rfl
    | true =>
     have:=reach_listed hinv.down f i.n j.n hrr hall
     rw [hinv.unlisted (i:=i) (by simp [hi])] at this; cases this
   have hcj:=hcan pre j post rfl
   have h1:=front pre hcj hnr hs (fun _=>hp) h
   obtain ⟨s1,s2⟩:=seg_front pre hcj hnr hs
   simp only [segOk,Bool.and_eq_true] at s1
   have hcij:chkIns P ops N { j with hold:=dropL pre j.hold }=true:=hci j (by simp)
   refine ins_sound (i:={ j with hold:=dropL pre j.hold }) hcij h1 s hp s1.1 ?_
   intro t' H' ρ' a' w' h' s' hp'
   refine ih (pre++post) (usedBy j.a U) _ t' H' ρ' a' w' (by simp at hl ⊢; omega) (hcan.drop hh) (fun i hi=>hh i ?_) (fun i hi=>hci i ?_) s1.2 (hinv.next hall) (htop.next (by rw [hinv.sz]; exact hinv.inb j (by simp))) h' s' hp' ?_
   ·rcases List.mem_append.1 hi with h2 | h2 <;> simp [h2]
   ·rcases List.mem_append.1 hi with h2 | h2 <;> simp [h2]
   ·intro t2 H2 ρ2 a2 w2 U2 hu
    exact hk t2 H2 ρ2 a2 w2 U2 fun x=>(hu x).trans (s2 x)
end
end Go.Ab

namespace Go.Ab
open Go
def nodupB:List Nat→Bool
 | []=>true
 | x::r => !hasN x r&&nodupB r
theorem nodupB_spec : ∀ {l:List Nat},nodupB l=true→l.Nodup
 | [],_=>List.nodup_nil
 | x::r,h=>by
  simp only [nodupB,Bool.and_eq_true,Bool.not_eq_true'] at h
  refine List.nodup_cons.2 ⟨fun hm=>?_,nodupB_spec h.2⟩
  rw [hasN_iff.2 hm] at h; cases h.1
def insN (l:List Ins):List Nat:=l.map fun i=>i.n
def permB (n:Nat) (l:List Ins):Bool:=nodupB (insN l)&&l.all (fun i=>Nat.blt i.n n)&&(List.range n).all fun k=>hasN k (insN l)
def notN (x:Nat) (l:List Ins):List Ins:=l.filter fun i => !(i.n==x)
def canonE (rch:Nat→Nat→Bool) (y:Nat):List Ins→List Ins→Bool
 | _,[]=>true
 | pre,j::r=>(j.n==y||chkPre rch j pre)&&canonE rch y (pre++[j]) r
def drawOk (ops:Array Oper) (l:List Ins):Bool:=l.all holdA&&canon (reach ops 16) [] l&&topo ops [] l&&permB ops.size l
def chkReg (P:Program) (N:Nat) (ops:Array Oper) (draw:Bool) (l:List Ins) (c:Nat):Bool :=
 l.all (chkIns P ops N)&&segOk [] l&&(c != 0||(usedL [] l).isEmpty)&&(match draw with
  | true=>drawOk ops l
  | false=>decide (insN l=List.range ops.size))
def half (P:Program) (N:Nat) (ops:Array Oper) (l:List Ins) (c x y:Nat):Bool :=
 l.all (chkIns P ops N)&&segOk [] l&&(c != 0||(usedL [] l).isEmpty)&&l.all holdA&&canonE (reach ops 16) y [] l&&canon (reach ops 16) [] (notN x l)&&topo ops [] l&&permB ops.size l
def insAfter (x:Ins) (y:Nat):List Ins→List Ins
 | []=>[]
 | i::r=>bif i.n==y then i::x::r else i::insAfter x y r
def mvx (x y:Nat) (l:List Ins):List Ins:=match l.find? fun i=>i.n==x with
 | some i=>insAfter i y (notN x l)
 | none=>l
def calm (a:AI):Bool:=match a.cl with
 | .p | .r | .a=>true
 | _=>false
def chkReg2 (P:Program) (N:Nat) (ops:Array Oper) (x y:Nat) (l:List Ins) (c:Nat):Bool :=
 !(x==y)&&half P N ops l c x y&&half P N ops (mvx x y l) c y x&&l.all fun j=>j.n==x||j.n==y||(calm j.a&&j.bm==0)||reach ops 16 x j.n||reach ops 16 y j.n
section
variable {B : Nat} {ro : Option Nat} {P : Program} {ρ0 : Nm → Loc} {H0 : AH} {w0 : World} {N : Nat} {ρ : Nm → Loc} {t : Fr} {H : AH} {a : Act} {w : World} {ops : Array Oper} {Q : Exit → Act → World → Prop}
theorem Inv.start {l:List Ins} (h:permB ops.size l=true):Inv ops l (Array.replicate ops.size false):=by
 simp only [permB,Bool.and_eq_true,List.all_eq_true,Nat.blt_eq,List.mem_range] at h
 refine ⟨by simp,fun k hk=>?_,nodupB_spec h.1.1,h.1.2,?_⟩
 ·have:=hasN_iff.1 (h.2 k hk)
  simp only [insN] at this
  simp [hk,this]
 ·intro k o ho hk
  have hlt:k<ops.size:=(Array.getElem?_eq_some_iff.1 ho).1
  simp [hlt] at hk
theorem topo_spec : ∀ (l:List Ins) (p:List Nat),topo ops p l=true → ∀ pre j post,l=pre++j::post → ∃ o,ops[j.n]? = some o ∧ ∀ e∈o.after,Region.binds .any e=true→e.on∈p∨e.on∈pre.map (·.n)
 | [],_,_,pre,j,post,h=>by simp at h
 | x::r,p,hc,pre,j,post,h=>by
  simp only [topo,Bool.and_eq_true] at hc
  cases pre with
  | nil =>
   simp only [List.nil_append,List.cons.injEq] at h
   obtain ⟨rfl,rfl⟩:=h
   cases ho:ops[x.n]? with
   | none=>simp [ho] at hc
   | some o =>
    refine ⟨o,rfl,fun e he hb=>.inl ?_⟩
    have:=hc.1
    simp only [ho,List.all_eq_true,Bool.or_eq_true,Bool.not_eq_true'] at this
    rcases this e (by simpa using he) with h | h
    ·rw [hb] at h; cases h
    ·exact hasN_iff.1 h
  | cons y pre =>
   simp only [List.cons_append,List.cons.injEq] at h
   obtain ⟨rfl,rfl⟩:=h
   obtain ⟨o,ho,hall⟩:=topo_spec _ _ hc.2 pre j post rfl
   refine ⟨o,ho,fun e he hb=>?_⟩
   rcases hall e he hb with h | h
   ·rcases List.mem_cons.1 h with h | h
    ·right; simp [h]
    ·exact .inl h
   ·right; simp only [List.map_cons,List.mem_cons]; exact .inr h
theorem Topo.start {l:List Ins} {listed:Array Bool} (h:topo ops [] l=true):Topo ops l listed:=by
 intro pre j post e
 obtain ⟨o,ho,hall⟩:=topo_spec l [] h pre j post e
 exact ⟨o,ho,fun e he hb=>(hall e he hb).elim (fun h=>by simp at h) .inr⟩
theorem isE {U' U:List Nat} (h : ∀ x,x∈U'↔x∈U) (he:U.isEmpty=true):U'=[]:=by
 have:U=[]:=by simpa using he
 subst this
 cases U' with
 | nil=>rfl
 | cons x r=>exact absurd ((h x).1 (by simp)) (by simp)
def CanonE (rch:Nat→Nat→Bool) (y:Nat) (l:List Ins):Prop := ∀ pre j post,l=pre++j::post→j.n≠y→chkPre rch j pre=true
theorem canonE_spec {rch:Nat→Nat→Bool} {y:Nat} : ∀ (l p:List Ins),canonE rch y p l=true → ∀ pre j post,l=pre++j::post→j.n≠y→chkPre rch j (p++pre)=true
 | [],_,_,pre,j,post,h=>by simp at h
 | x::r,p,hc,pre,j,post,h=>by
  simp only [canonE,Bool.and_eq_true,Bool.or_eq_true,beq_iff_eq] at hc
  intro hne
  cases pre with
  | nil =>
   simp only [List.nil_append,List.cons.injEq] at h
   obtain ⟨rfl,rfl⟩:=h
   simpa using hc.1.resolve_left hne
  | cons z pre =>
   simp only [List.cons_append,List.cons.injEq] at h
   obtain ⟨rfl,rfl⟩:=h
   have:=canonE_spec _ _ hc.2 pre j post rfl hne
   simpa using this
theorem CanonE.of {rch:Nat→Nat→Bool} {y:Nat} {l:List Ins} (h:canonE rch y [] l=true):CanonE rch y l:=fun pre j post e hne=>by simpa using canonE_spec l [] h pre j post e hne
theorem CanonE.drop {rch:Nat→Nat→Bool} {y:Nat} {pre post:List Ins} {x:Ins} (hh : ∀ j∈pre++x::post,holdA j=true) (h:CanonE rch y (pre++x::post)):CanonE rch y (pre++post):=by
 intro p j q e hne
 have hjm:j∈pre++x::post:=by
  have:j∈pre++post:=by rw [e]; simp
  rcases List.mem_append.1 this with h1 | h1
  ·simp [h1]
  ·simp [h1]
 have hee : ∀ l:List Ins,dropL l j.hold=[]→j.hold=[]∨j.a.cl≠.a:=by
  intro l _
  have:=hh j hjm
  unfold holdA at this
  cases hc:j.a.cl <;> simp only [hc] at this
  case a=>exact .inl (by simpa using this)
  all_goals exact .inr (by simp)
 rcases List.append_eq_append_iff.1 e with ⟨as,h1,h2⟩ | ⟨bs,h1,h2⟩
 ·have:=h (pre++x::as) j q (by rw [h2]; simp) hne
  rw [h1]
  refine chkPre_sub ?_ hee this
  exact List.Sublist.append (List.Sublist.refl _) (List.sublist_cons_self _ _)
 ·cases bs with
  | nil =>
   simp only [List.append_nil,List.nil_append] at h1 h2
   have:=h (p++[x]) j q (by rw [← h2,h1]; simp) hne
   exact chkPre_sub (by simp) hee this
  | cons z bs =>
   simp only [List.cons_append,List.cons.injEq] at h2
   obtain ⟨rfl,h2⟩:=h2
   exact h p j (bs++x::post) (by rw [h1]; simp) hne
theorem notN_split {pre post:List Ins} {j:Ins} (hnd:((pre++j::post).map (·.n)).Nodup):notN j.n (pre++j::post)=pre++post:=by
 simp only [List.map_append,List.map_cons] at hnd
 rw [List.nodup_append] at hnd
 obtain ⟨h1,h2,h3⟩:=hnd
 rw [List.nodup_cons] at h2
 unfold notN
 rw [List.filter_append,List.filter_cons]
 have hp:pre.filter (fun i => !(i.n==j.n))=pre:=by
  rw [List.filter_eq_self]
  intro a ha
  have:=h3 a.n (List.mem_map.2 ⟨a,ha,rfl⟩) j.n (by simp)
  simpa using this
 have hq:post.filter (fun i => !(i.n==j.n))=post:=by
  rw [List.filter_eq_self]
  intro a ha
  have:a.n≠j.n:=fun he=>h2.1 (List.mem_map.2 ⟨a,ha,he⟩)
  simpa using this
 rw [hp,hq]
 simp
theorem notN_drop {rch:Nat→Nat→Bool} {pre post:List Ins} {j:Ins} {x:Nat} (hh : ∀ i∈pre++j::post,holdA i=true) (h:Canon rch (notN x (pre++j::post))):Canon rch (notN x (pre++post)):=by
 unfold notN at *
 rw [List.filter_append] at *
 rw [List.filter_cons] at h
 split at h
 ·refine Canon.drop (x:=j) ?_ h
  intro i hi
  refine hh i ?_
  rcases List.mem_append.1 hi with h1 | h1
  ·simp [(List.mem_filter.1 h1).1]
  ·rcases List.mem_cons.1 h1 with h1 | h1
   ·simp [h1]
   ·simp [(List.mem_filter.1 h1).1]
 ·exact h
theorem insAfter_mem {x:Ins} {y:Nat} : ∀ {l:List Ins} {i:Ins},i∈insAfter x y l→i=x∨i∈l
 | [],i,h=>by simp [insAfter] at h
 | z::r,i,h=>by
  simp only [insAfter] at h
  cases hz:z.n==y <;> simp only [hz,cond_true,cond_false,List.mem_cons] at h ⊢
  ·rcases h with h | h
   ·exact .inr (.inl h)
   ·exact (insAfter_mem h).imp id .inr
  ·rcases h with h | h | h
   ·exact .inr (.inl h)
   ·exact .inl h
   ·exact .inr (.inr h)
theorem mvx_mem {x y:Nat} {l:List Ins} {i:Ins} (h:i∈mvx x y l):i∈l:=by
 unfold mvx at h
 cases hf:l.find? fun i=>i.n==x with
 | none=>simp only [hf] at h; exact h
 | some z =>
  simp only [hf] at h
  rcases insAfter_mem h with h | h
  ·rw [h]; exact List.mem_of_find?_eq_some hf
  ·exact (List.mem_filter.1 h).1
theorem uniq {l:List Ins} (hnd:(l.map (·.n)).Nodup) {i j:Ins} (hi:i∈l) (hj:j∈l) (h:i.n=j.n):i=j:=by
 induction l with
 | nil=>cases hi
 | cons x r ih =>
  rw [List.map_cons,List.nodup_cons] at hnd
  rcases List.mem_cons.1 hi with h1 | h1 <;> rcases List.mem_cons.1 hj with h2 | h2
  ·rw [h1,h2]
  ·exfalso; exact hnd.1 (List.mem_map.2 ⟨j,h2,by rw [← h,h1]⟩)
  ·exfalso; exact hnd.1 (List.mem_map.2 ⟨i,h1,by rw [h,h2]⟩)
  ·exact ih hnd.2 h1 h2
theorem vci_and {i:Ins} {h₁ h₂:List Hold} {K₁ K₂:Fr→AH→Prop} (hc:calm i.a=true) (e1:vci P { i with hold:=h₁ } K₁ t H) (e2:vci P { i with hold:=h₂ } K₂ t H):vci P { i with hold:=[] } (fun t H=>K₁ t H∧K₂ t H) t H:=by
 unfold vci at *
 simp only at *
 cases hg:gd i.g t with
 | none=>simp only [hg] at e1
 | some b =>
  cases b with
  | false=>simp only [hg] at e1 e2 ⊢; exact ⟨e1,e2⟩
  | true =>
   simp only [hg,vca] at e1 e2 ⊢
   have h3:(i.a.cl=.p∨i.a.cl=.r)∨i.a.cl=.a:=by
    unfold calm at hc
    cases hh:i.a.cl <;> simp [hh] at hc <;> simp
   rcases h3 with h3 | h3
   ·obtain ⟨v,v1,v2,v3⟩:=(Out_pr h3).1 e1
    obtain ⟨u,u1,u2,u3⟩:=(Out_pr h3).1 e2
    rw [v1] at u1; cases u1
    exact (Out_pr h3).2 ⟨v,v1,fun h=>(by cases h),v3,u3⟩
   ·obtain ⟨q,v,o,q1,q2,q3,q4,q5⟩:=(Out_a h3).1 e1
    obtain ⟨q',v',o',r1,r2,r3,r4,r5⟩:=(Out_a h3).1 e2
    rw [q1] at r1; cases r1
    rw [q2] at r2; cases r2
    exact (Out_a h3).2 ⟨q,v,o,q1,q2,q3,fun _=>(by intro p hp; cases hp),q5,r5⟩
theorem any2_sound {x y f:Nat} (hxy:x≠y) {K:Fr→AH→Prop} : ∀ (n:Nat) (l₁ l₂:List Ins) (U:List Nat) (listed:Array Bool) (t:Fr) (H:AH) (ρ:Nm→Loc) (a:Act) (w:World),l₁.length=n→l₂.length=n →
  CanonE (reach ops f) y l₁→Canon (reach ops f) (notN x l₁)→CanonE (reach ops f) x l₂→Canon (reach ops f) (notN y l₂)→(∀ i∈l₁,holdA i=true)→(∀ i∈l₂,holdA i=true) →
  (∀ i∈l₁,chkIns P ops N i=true)→(∀ i∈l₂,i∈l₁)→segOk U l₁=true→segOk U l₂=true→Inv ops l₁ listed→Inv ops l₂ listed→Topo ops l₁ listed→Topo ops l₂ listed →
  (∀ j∈l₁,j.n=x∨j.n=y∨(calm j.a=true∧j.bm=0)∨reach ops f x j.n=true∨reach ops f y j.n=true)→x∈l₁.map (·.n)→y∈l₁.map (·.n) →
  vcr P l₁ K t H→vcr P l₂ K t H→St B ρ0 H0 w0 N ρ t H a w→PClean H U →
  (∀ t' H' ρ' a' w' U',((∀ x,x∈U'↔x∈usedL U l₁)∨(∀ x,x∈U'↔x∈usedL U l₂))→K t' H'→St B ρ0 H0 w0 N ρ' t' H' a' w'→PClean H' U'→Q .normal a' w')→wpAnyIn (Fe ro) 0 P .any ops Q n listed a w:=by
 intro n
 induction n with
 | zero =>
  intro l₁ l₂ U listed t H ρ a w hl hl2 _ _ _ _ _ _ _ _ _ _ hinv _ _ _ _ hx
  have:l₁=[]:=by cases l₁ with | nil=>rfl | cons x r=>simp at hl
  subst this
  simp at hx
 | succ n ih =>
  intro l₁ l₂ U listed t H ρ a w hl hl2 c1 c1' c2 c2' a1 a2 ci1 hmem s1 s2 i1 i2 t1 t2 hcalm hx hy h1 h2 s hp hk
  refine ⟨fun hr=>?_,fun k hk'=>?_⟩
  ·exfalso
   cases l₁ with
   | nil=>simp at hl
   | cons j r =>
    have:=t1.ready i1
    rw [hr] at this; cases this
  ·obtain ⟨pre1,j1,post1,rfl,e1,hall⟩:=i1.split hk'
   obtain ⟨pre2,j2,post2,rfl,e2,_⟩:=i2.split hk'
   have hnr : ∀ {l:List Ins} (hi:Inv ops l listed),∀ i∈l,reach ops f i.n k=false:=by
    intro l hinv i hi
    cases hrr:reach ops f i.n k with
    | false=>rfl
    | true =>
     have:=reach_listed hinv.down f i.n k hrr hall
     rw [hinv.unlisted (i:=i) hi] at this; cases this
   have hjj:j1=j2:=uniq i1.nd (by simp) (hmem j2 (by simp)) (by rw [e1,e2])
   subst hjj
   subst e1
   by_cases hky:j1.n=y
   ·
    have hcan:Canon (reach ops f) (pre2++post2):=by
     have:=notN_split i2.nd
     rw [hky] at this
     rw [this] at c2'; exact c2'
    have hcj:=c2 pre2 j1 post2 rfl (by rw [hky]; exact Ne.symm hxy)
    have hnr2 : ∀ i∈pre2,reach ops f i.n j1.n=false:=fun i hi=>hnr i2 i (by simp [hi])
    have g1:=front pre2 hcj hnr2 s2 (fun _=>hp) h2
    obtain ⟨g2,g3⟩:=seg_front pre2 hcj hnr2 s2
    simp only [segOk,Bool.and_eq_true] at g2
    have hcij:chkIns P ops N { j1 with hold:=dropL pre2 j1.hold }=true:=ci1 j1 (by simp)
    refine ins_sound (i:={ j1 with hold:=dropL pre2 j1.hold }) hcij g1 s hp g2.1 ?_
    intro t' H' ρ' a' w' h' s' hp'
    refine any_sound (f:=f) n (pre2++post2) (usedBy j1.a U) _ t' H' ρ' a' w' (by simp at hl2 ⊢; omega) hcan (fun i hi=>a2 i ?_) (fun i hi=>ci1 i (hmem i ?_)) g2.2 (i2.next hall) (t2.next (by rw [i2.sz]; exact i2.inb j1 (by simp))) h' s' hp' ?_
    ·rcases List.mem_append.1 hi with h2 | h2 <;> simp [h2]
    ·rcases List.mem_append.1 hi with h2 | h2 <;> simp [h2]
    ·intro t2 H2 ρ2 a2 w2 U2 hu
     exact hk t2 H2 ρ2 a2 w2 U2 (.inr fun x=>(hu x).trans (g3 x))
   ·by_cases hkx:j1.n=x
    ·have hcan:Canon (reach ops f) (pre1++post1):=by
      have:=notN_split i1.nd
      rw [hkx] at this
      rw [this] at c1'; exact c1'
     have hcj:=c1 pre1 j1 post1 rfl hky
     have hnr1 : ∀ i∈pre1,reach ops f i.n j1.n=false:=fun i hi=>hnr i1 i (by simp [hi])
     have g1:=front pre1 hcj hnr1 s1 (fun _=>hp) h1
     obtain ⟨g2,g3⟩:=seg_front pre1 hcj hnr1 s1
     simp only [segOk,Bool.and_eq_true] at g2
     have hcij:chkIns P ops N { j1 with hold:=dropL pre1 j1.hold }=true:=ci1 j1 (by simp)
     refine ins_sound (i:={ j1 with hold:=dropL pre1 j1.hold }) hcij g1 s hp g2.1 ?_
     intro t' H' ρ' a' w' h' s' hp'
     refine any_sound (f:=f) n (pre1++post1) (usedBy j1.a U) _ t' H' ρ' a' w' (by simp at hl ⊢; omega) hcan (fun i hi=>a1 i ?_) (fun i hi=>ci1 i ?_) g2.2 (i1.next hall) (t1.next (by rw [i1.sz]; exact i1.inb j1 (by simp))) h' s' hp' ?_
     ·rcases List.mem_append.1 hi with h2 | h2 <;> simp [h2]
     ·rcases List.mem_append.1 hi with h2 | h2 <;> simp [h2]
     ·intro t2 H2 ρ2 a2 w2 U2 hu
      exact hk t2 H2 ρ2 a2 w2 U2 (.inl fun x=>(hu x).trans (g3 x))
    ·
     have hcl:calm j1.a=true∧j1.bm=0:=by
      rcases hcalm j1 (by simp) with h | h | h | h | h
      ·exact absurd h hkx
      ·exact absurd h hky
      ·exact h
      ·obtain ⟨i,hi,hix⟩:=List.mem_map.1 hx
       have:=hnr i1 i hi
       rw [hix,h] at this; cases this
      ·obtain ⟨i,hi,hix⟩:=List.mem_map.1 hy
       have:=hnr i1 i hi
       rw [hix,h] at this; cases this
     have hcj1:=c1 pre1 j1 post1 rfl hky
     have hcj2:=c2 pre2 j1 post2 rfl hkx
     have hnr1 : ∀ i∈pre1,reach ops f i.n j1.n=false:=fun i hi=>hnr i1 i (by simp [hi])
     have hnr2 : ∀ i∈pre2,reach ops f i.n j1.n=false:=fun i hi=>hnr i2 i (by simp [hi])
     have g1:=front pre1 hcj1 hnr1 s1 (fun _=>hp) h1
     have g1':=front pre2 hcj2 hnr2 s2 (fun _=>hp) h2
     obtain ⟨g2,g3⟩:=seg_front pre1 hcj1 hnr1 s1
     obtain ⟨g2',g3'⟩:=seg_front pre2 hcj2 hnr2 s2
     simp only [segOk,Bool.and_eq_true] at g2 g2'
     have hcij:chkIns P ops N { j1 with hold:=[] }=true:=ci1 j1 (by simp)
     have gg:=vci_and (i:=j1) hcl.1 g1 g1'
     refine ins_sound (i:={ j1 with hold:=[] }) hcij gg s hp g2.1 ?_
     intro t' H' ρ' a' w' h' s' hp'
     refine ih (pre1++post1) (pre2++post2) (usedBy j1.a U) _ t' H' ρ' a' w' (by simp at hl ⊢; omega) (by simp at hl2 ⊢; omega) (c1.drop a1) (notN_drop a1 c1') (c2.drop a2) (notN_drop a2 c2')
      (fun i hi=>a1 i ?_) (fun i hi=>a2 i ?_) (fun i hi=>ci1 i ?_) ?_ g2.2 g2'.2 (i1.next hall) (i2.next hall) (t1.next (by rw [i1.sz]; exact i1.inb j1 (by simp))) (t2.next (by rw [i2.sz]; exact i2.inb j1 (by simp)))
      (fun i hi=>hcalm i ?_) ?_ ?_ h'.1 h'.2 s' hp' ?_
     ·rcases List.mem_append.1 hi with h2 | h2 <;> simp [h2]
     ·rcases List.mem_append.1 hi with h2 | h2 <;> simp [h2]
     ·rcases List.mem_append.1 hi with h2 | h2 <;> simp [h2]
     ·intro i hi
      have h5:i∈pre2++j1::post2:=by rcases List.mem_append.1 hi with h2 | h2 <;> simp [h2]
      have h3:=hmem i h5
      have hne:i.n≠j1.n:=by
       intro he
       have h6:=notN_split i2.nd
       rw [← h6] at hi
       have:=(List.mem_filter.1 hi).2
       simp [he] at this
      rcases List.mem_append.1 h3 with h4 | h4
      ·simp [h4]
      ·rcases List.mem_cons.1 h4 with h4 | h4
       ·exact absurd (by rw [h4]) hne
       ·simp [h4]
     ·rcases List.mem_append.1 hi with h2 | h2 <;> simp [h2]
     ·simp only [List.map_append,List.map_cons,List.mem_append,List.mem_cons] at hx ⊢
      rcases hx with h | h | h
      ·exact .inl h
      ·exact absurd h.symm hkx
      ·exact .inr h
     ·simp only [List.map_append,List.map_cons,List.mem_append,List.mem_cons] at hy ⊢
      rcases hy with h | h | h
      ·exact .inl h
      ·exact absurd h.symm hky
      ·exact .inr h
     ·intro t2 H2 ρ2 a2 w2 U2 hu
      refine hk t2 H2 ρ2 a2 w2 U2 ?_
      rcases hu with hu | hu
      ·exact .inl fun x=>(hu x).trans (g3 x)
      ·exact .inr fun x=>(hu x).trans (g3' x)
theorem len_of {l:List Ins} (h:permB ops.size l=true):l.length=ops.size:=by
 have hinv:=Inv.start h
 have:=hinv.nd
 have h8:l.map (·.n) ⊆ List.range ops.size:=by
  intro k hk
  obtain ⟨i,hi,rfl⟩:=List.mem_map.1 hk
  exact List.mem_range.2 (hinv.inb i hi)
 have h9:List.range ops.size ⊆ l.map (·.n):=by
  intro k hk
  have hk:=List.mem_range.1 hk
  exact (hinv.idx k hk).1 (by simp [hk])
 have e1:=this.length_le_of_subset h8
 have e2:=(List.nodup_range (n:=ops.size)).length_le_of_subset h9
 simp at e1 e2
 omega
theorem reg_sound {id:Nat} {draw:Bool} {l:List Ins} {c:Nat} {K:Fr→AH→Prop} (hm:P.follows .mixedOrders=true) (hc:chkReg P N ops draw l c=true) (h:vcr P l (fun t H=>K t (bmp c H)) t H)
  (s:St B ρ0 H0 w0 N ρ t H a w) (hcl:Clean H) (hQ : ∀ t' H' ρ' a' w',K t' H'→St B ρ0 H0 w0 N ρ' t' H' a' w'→Clean H'→Q .normal a' w'):(Code.region id ops draw).wpIn (Fe ro) 0 P Q a w:=by
 simp only [chkReg,Bool.and_eq_true,Bool.or_eq_true] at hc
 obtain ⟨⟨⟨h1,h2⟩,h3⟩,h4⟩:=hc
 have hp:PClean H []:=fun j _=>hcl j
 have fin : ∀ t' H' ρ' a' w' U',(∀ x,x∈U'↔x∈usedL [] l)→K t' (bmp c H')→St B ρ0 H0 w0 N ρ' t' H' a' w'→PClean H' U'→Q .normal a' w':=by
  intro t' H' ρ' a' w' U' hu hk hs hp'
  obtain ⟨s1,s2⟩:=bmp_St (bm:=c) hs hp' fun h0=>by
   rcases h3 with h3 | h3
   ·rw [h0] at h3; simp at h3
   ·exact isE hu h3
  exact hQ t' _ ρ' a' w' hk s1 s2
 cases draw with
 | false =>
  simp only [decide_eq_true_eq] at h4
  refine wpIn_region ?_
  rw [← h4]
  exact lst_sound l [] t H ρ a w h1 h2 h s hp fun t' H' ρ' a' w' hk hs hp'=>fin t' H' ρ' a' w' _ (fun _=>Iff.rfl) hk hs hp'
 | true =>
  simp only [drawOk,Bool.and_eq_true] at h4
  obtain ⟨⟨⟨h4,h5⟩,h6⟩,h7⟩:=h4
  refine wpIn_region_any hm ?_
  have hinv:=Inv.start h7
  have hlen:=len_of h7
  refine any_sound (f:=16) ops.size l [] _ t H ρ a _ hlen (Canon.of h5) (fun i hi=>List.all_eq_true.1 h4 i hi) (fun i hi=>List.all_eq_true.1 h1 i hi) h2 hinv (Topo.start h6) h s.drew hp ?_
  exact fin
theorem reg2_sound {id:Nat} {x y:Nat} {l:List Ins} {c:Nat} {K:Fr→AH→Prop} (hm:P.follows .mixedOrders=true) (hc:chkReg2 P N ops x y l c=true) (h1:vcr P l (fun t H=>K t (bmp c H)) t H)
  (h2:vcr P (mvx x y l) (fun t H=>K t (bmp c H)) t H) (hx:(hasN x (insN l)&&hasN y (insN l))=true)
  (s:St B ρ0 H0 w0 N ρ t H a w) (hcl:Clean H) (hQ : ∀ t' H' ρ' a' w',K t' H'→St B ρ0 H0 w0 N ρ' t' H' a' w'→Clean H'→Q .normal a' w'):(Code.region id ops true).wpIn (Fe ro) 0 P Q a w:=by
 simp only [chkReg2,half,Bool.and_eq_true,Bool.or_eq_true,Bool.not_eq_true',beq_eq_false_iff_ne,List.all_eq_true] at hc
 obtain ⟨⟨⟨hxy,⟨⟨⟨⟨⟨⟨⟨p1,p2⟩,p3⟩,p4⟩,p5⟩,p6⟩,p7⟩,p8⟩⟩,⟨⟨⟨⟨⟨⟨⟨q1,q2⟩,q3⟩,q4⟩,q5⟩,q6⟩,q7⟩,q8⟩⟩,hcalm⟩:=hc
 have hp:PClean H []:=fun j _=>hcl j
 have fin : ∀ t' H' ρ' a' w' U',((∀ x,x∈U'↔x∈usedL [] l)∨(∀ z,z∈U'↔z∈usedL [] (mvx x y l)))→K t' (bmp c H')→St B ρ0 H0 w0 N ρ' t' H' a' w'→PClean H' U'→Q .normal a' w':=by
  intro t' H' ρ' a' w' U' hu hk hs hp'
  obtain ⟨s1,s2⟩:=bmp_St (bm:=c) hs hp' fun h0=>by
   rcases hu with hu | hu
   ·rcases p3 with h3 | h3
    ·rw [h0] at h3; simp at h3
    ·exact isE hu h3
   ·rcases q3 with h3 | h3
    ·rw [h0] at h3; simp at h3
    ·exact isE hu h3
  exact hQ t' _ ρ' a' w' hk s1 s2
 refine wpIn_region_any hm ?_
 simp only [Bool.and_eq_true] at hx
 refine any2_sound (f:=16) hxy ops.size l (mvx x y l) [] _ t H ρ a _ (len_of p8) (len_of q8) (CanonE.of p5) (Canon.of p6) (CanonE.of q5) (Canon.of q6) p4 q4 p1 (fun i hi=>mvx_mem hi) p2 q2 (Inv.start p8) (Inv.start q8) (Topo.start p7) (Topo.start q7)
  (fun j hj=>?_) (hasN_iff.1 hx.1) (hasN_iff.1 hx.2) h1 h2 s.drew hp fin
 have:=hcalm j hj
 simp only [beq_iff_eq] at this
 rcases this with (((h | h) | h) | h) | h
 ·exact .inl h
 ·exact .inr (.inl h)
 ·exact .inr (.inr (.inl h))
 ·exact .inr (.inr (.inr (.inl h)))
 ·exact .inr (.inr (.inr (.inr h)))
end
end Go.Ab

namespace Go.Ab
open Go
inductive AC where
 | skip
 | reg (L:List Nat) (c:Nat) (l:List Ins)
 | reg2 (L:List Nat) (c x y:Nat) (l:List Ins)
 | seq (a b:AC)
 | cond (x:X) (a b:AC)
 | blk (id:Nat) (a:AC)
 | loop (a:AC)
 | exit (id:Nat)
 | ret
 | rf (x:X) (p q:Nat) (a b:AC)
def Iter (P:Program) (g:FuncId) (caps:List AV) (S:Nm→Prop) (l:List (Int × Int)) (H:AH):Prop :=
 ∀ (lp:Nat) (J:Nat→World→Prop) (Jx:World→Prop) (ρ:Nm→Loc) (w:World) (cs:List Value),HRel ρ H w→VRels ρ H.D caps cs →
  (∀ i W,J i W → ∃ ρ' H',HRel ρ' H' W∧(∀ n,H.D n→H'.D n∧ρ' n=ρ n) ∧ ∀ n,S n→H'.f n=H.f n) →
  (∀ i W x y,l[i]? = some (x,y)→J i W→YieldAt Fence.wide 1 P lp #[.int .i64 x,.int .i64 y] W fun e W'=>(e=.returned (.bool true)∧J (i+1) W')∨(e=.returned (.bool false)∧Jx W')) →
  J 0 w→CallsIn Fence.wide 2 P g (#[.func (.yield lp) #[] #[]]++cs.toArray) w fun e W'=>(∃ v,e=.returned v)∧(J l.length W'∨Jx W')
structure Qs where
 nrm:Fr→AH→Prop
 ext:Nat→Fr→AH→Prop
 ret:Fr→AH→Prop
def vc (P:Program):AC→Qs→Fr→AH→Prop
 | .skip,Q,t,H=>Q.nrm t H
 | .reg L c l,Q,t,H=>vcr P l (fun t' H'=>Q.nrm (rs L t') (bmp c H')) t H
 | .reg2 L c x y l,Q,t,H=>vcr P l (fun t' H'=>Q.nrm (rs L t') (bmp c H')) t H∧vcr P (mvx x y l) (fun t' H'=>Q.nrm (rs L t') (bmp c H')) t H
 | .seq a b,Q,t,H=>vc P a { Q with nrm:=fun t' H'=>vc P b Q t' H' } t H
 | .cond x a b,Q,t,H=>match ev t x with
  | .bool v=>(v=true→vc P a Q t H)∧(v=false→vc P b Q t H)
  | _=>False
 | .blk id a,Q,t,H=>vc P a { Q with ext:=fun i t' H'=>if i=id then Q.nrm t' H' else Q.ext i t' H' } t H
 | .loop a,Q,t,H => ∃ (I:Nat→Fr→AH→Prop) (n₀:Nat),I n₀ t H ∧ ∀ n t' H',I n t' H'→H.k≤H'.k→Clean H' → ∃ s,vc P a { Q with nrm:=fun t'' H'' => ∃ n',n'<n∧I n' t'' H'' } t' { H' with sup:=s }
 | .exit id,Q,t,H=>Q.ext id t H
 | .ret,Q,t,H=>Q.ret t H
 | .rf x p q a b,Q,t,H=>match ev t x with
  | .fn g caps => ∃ (l:List (Int × Int)) (S:Nm→Prop),Iter P g caps S l H∧Callable P g ∧ ∃ I:Nat→AH→Prop,I 0 H ∧
    (∀ i H',I i H'→H.k≤H'.k→Clean H' → ∀ n,S n→H'.f n=H.f n) ∧
    (∀ i x y H',l[i]? = some (x,y)→I i H'→H.k≤H'.k→Clean H' → ∃ s,vc P a ⟨fun t1 H1=>Clean H1 → ∃ s,vc P b ⟨fun _ H2=>I (i+1) H2,fun id _ H2=>Q.ext id t H2,fun _ H2=>Q.ret t H2⟩ t1 { H1 with sup:=s },fun _ _ _=>False,fun _ _=>False⟩
     (put (some q) (.int .i64 y) (put (some p) (.int .i64 x) t)) { H' with sup:=s }) ∧
    (∀ H',I l.length H'→Q.nrm t H')
  | _=>False
def chkC (P:Program) (N:Nat) (top:Bool):Code→AC→Bool
 | .skip,.skip=>true
 | .region _ ops draw,.reg _ c l=>chkReg P N ops draw l c
 | .region _ ops true,.reg2 _ c x y l=>chkReg2 P N ops x y l c&&(hasN x (insN l)&&hasN y (insN l))
 | .seq a b,.seq a' b'=>chkC P N top a a'&&chkC P N top b b'
 | .cond x a b,.cond x' a' b'=>chkX x' x&&chkC P N top a a'&&chkC P N top b b'
 | .block id a,.blk id' a'=>id==id'&&chkC P N top a a'
 | .loop a,.loop a'=>chkC P N top a a'
 | .exit id,.exit id'=>id==id'
 | .ret,.ret=>true
 | .rangeFunc x ps a b,.rf x' p q a' b'=>top&&chkX x' x&&decide (ps = #[p,q])&&Nat.blt p N&&Nat.blt q N&&chkC P N false a a'&&chkC P N false b b'
 | _,_=>false
theorem rs_any {L:List Nat} {t:Fr} (s:Nat):rs L t s=t s∨rs L t s=.any:=by
 unfold rs fr
 induction L with
 | nil=>right; rfl
 | cons x r ih =>
  simp only [List.map_cons,lkp]
  cases h:x==s with
  | true =>
   have:x=s:=by simpa using h
   subst this
   left; rfl
  | false=>simpa [h] using ih
theorem TRel.rs {ρ:Nm→Loc} {D:Nm→Prop} {t:Fr} {a:Act} {L:List Nat} (h:TRel ρ D t a):TRel ρ D (rs L t) a:=by
 intro s
 rcases rs_any (L:=L) (t:=t) s with e | e
 ·rw [e]; exact h s
 ·rw [e]; simp [VRel]
theorem St.rs {B:Nat} {ρ0:Nm→Loc} {H0:AH} {w0:World} {N:Nat} {ρ:Nm→Loc} {t:Fr} {H:AH} {a:Act} {w:World} {L:List Nat} (h:St B ρ0 H0 w0 N ρ t H a w):St B ρ0 H0 w0 N ρ (Ab.rs L t) H a w :=
 ⟨h.hw,h.tr.rs,h.sz,h.df,h.le,h.ext⟩
theorem HRel.sup {ρ:Nm→Loc} {H:AH} {w:World} {s:List Nm} (h:HRel ρ H w):HRel ρ { H with sup:=s } w :=
 ⟨fun m o hm=>by
  have:=h.obj m o hm
  cases o <;> exact this,h.lt,h.inj,h.tmp,h.io⟩
theorem Ext.sup {ρ ρ':Nm→Loc} {H H':AH} {w w':World} {s:List Nm} (h:Ext ρ ρ' H H' w w'):Ext ρ ρ' H { H' with sup:=s } w w':=⟨h.dom,h.size,h.frame,h.back,h.k,h.os⟩
theorem St.sup {B:Nat} {ρ0:Nm→Loc} {H0:AH} {w0:World} {N:Nat} {ρ:Nm→Loc} {t:Fr} {H:AH} {a:Act} {w:World} {l:List Nm} (h:St B ρ0 H0 w0 N ρ t H a w):St B ρ0 H0 w0 N ρ t { H with sup:=l } a w :=
 ⟨h.hw.sup,h.tr,h.sz,h.df,h.le,h.ext.sup⟩
theorem HRel.other {ρ:Nm→Loc} {H:AH} {w w':World} (hw:HRel ρ H w) (hs:w.heap.size≤w'.heap.size) (h : ∀ n o,H.f n=some o→o.live=true→w'.heap[(ρ n).b]? = w.heap[(ρ n).b]?):HRel ρ H w' where
 obj n o hn:=by
  have h1:=hw.obj n o hn
  have h2:=h n o hn
  cases o <;> simp only [AO.live,forall_const,Bool.false_eq_true,false_imp_iff] at h2
  case row c g=>simp only [objAt,rowAt] at h1 ⊢; rw [h2]; exact h1
  case fix c g o=>simp only [objAt,fixAt] at h1 ⊢; rw [h2]; exact h1
  case mp r m=>simp only [objAt] at h1 ⊢; rw [h2]; exact h1
  case mpb r m k b=>simp only [objAt] at h1 ⊢; rw [h2]; exact h1
  case mpi r m it s c =>
   simp only [objAt] at h1 ⊢
   rw [h2]
   obtain ⟨es,clock,sb,e1,e2,e3,e4⟩:=h1
   refine ⟨es,clock,sb,e1,e2,e3,?_⟩
   rw [h it _ e3 rfl]; exact e4
  case itr m=>simp only [objAt] at h1 ⊢; rw [h2]; exact h1
  case itr0=>simp only [objAt] at h1 ⊢; rw [h2]; exact h1
  case dead=>trivial
 lt n o hn hl:=Nat.lt_of_lt_of_le (hw.lt n o hn hl) hs
 inj:=hw.inj
 tmp:=hw.tmp
 io:=hw.io
theorem putObj_size {w:World} {b:Nat} {o:Obj}:(w.putObj b o).heap.size=w.heap.size:=by simp [World.putObj]
theorem HRel.putObj {ρ:Nm→Loc} {H:AH} {w:World} {b:Nat} {o:Obj} (hw:HRel ρ H w) (hu:unn ρ H b):HRel ρ H (w.putObj b o) :=
 hw.other (by rw [putObj_size]; exact Nat.le_refl _) fun n o' hn hl=>World.putObj_heap_other (hu n o' hn hl)
theorem HRel.alloc {ρ:Nm→Loc} {H:AH} {w:World} {o:Obj} (hw:HRel ρ H w):HRel ρ H (w.alloc o) :=
 hw.other (by simp) fun n o' hn hl=>by
  show (w.heap.push o)[(ρ n).b]? = _
  rw [Array.getElem?_push_lt (hw.lt n o' hn hl)]
  exact (Array.getElem?_eq_getElem _).symm
theorem Ext.putObj {ρ ρ':Nm→Loc} {H H':AH} {w w':World} {b:Nat} {o:Obj} (x:Ext ρ ρ' H H' w w') (hb:w.heap.size≤b):Ext ρ ρ' H H' w (w'.putObj b o) :=
 ⟨x.dom,by rw [putObj_size]; exact x.size,fun c hc hn=>(World.putObj_heap_other (by omega)).trans (x.frame c hc hn),x.back,x.k,x.os⟩
theorem Ext.alloc {ρ:Nm→Loc} {H:AH} {w w':World} {o:Obj} (x:Ext ρ ρ H H w w'):Ext ρ ρ H H w (w'.alloc o) :=
 ⟨x.dom,by have:=x.size; simp; omega,fun c hc hn=>by
  have h:=x.frame c hc hn
  have:c<w'.heap.size:=Nat.lt_of_lt_of_le hc x.size
  rw [← h]
  show (w'.heap.push o)[c]? = _
  rw [Array.getElem?_push_lt this]
  exact (Array.getElem?_eq_getElem _).symm,x.back,x.k,x.os⟩
theorem unn_lt {ρ:Nm→Loc} {H:AH} {w:World} {b:Nat} (hw:HRel ρ H w) (hb:w.heap.size≤b):unn ρ H b:=fun n o hn hl e=>by
 have:=hw.lt n o hn hl; omega
theorem Marks.putObj {B:Nat} {ρ:Nm→Loc} {H:AH} {w:World} {ds:List Deferred} {b:Nat} {o:Obj} (h:Marks B ρ H w ds) (hb:w.heap[b]? ≠ some (.deferred (some []))):Marks B ρ H (w.putObj b o) ds:=by
 obtain ⟨l,h1,h2,h3⟩:=h
 refine ⟨l,h1,h2,fun D hD=>?_⟩
 obtain ⟨k1,k2,k3⟩:=h3 D hD
 exact ⟨k1,(World.putObj_heap_other (fun e=>hb (by rw [← e]; exact k2))).trans k2,k3⟩
theorem wpIn_loop_ghost {F:Fence} {rm:Nat} {P:Program} {Q:Exit→Act→World→Prop} {a:Act} {w:World} {c:Code} (I:Nat→Act→World→Prop) (n₀:Nat) (h₀:I n₀ a w)
  (round : ∀ n a w,I n a w→c.wpIn F rm P (Exit.then (fun a' w' => ∃ n',n'<n∧I n' a' w') Q) a w):(Code.loop c).wpIn F rm P Q a w:=by
 refine wpIn_loop (fun a w => ∃ n,I n a w) (fun a w=>leastOf (fun n=>I n a w)) ⟨n₀,h₀⟩ ?_
 intro a w hI
 refine wpIn_mono (round _ a w (leastOf_spec hI).1) ?_
 intro e a' w' hq
 cases e with
 | normal =>
  obtain ⟨n',hlt,hI'⟩:=hq
  exact show (∃ n,I n a' w')∧leastOf (fun n=>I n a' w')<leastOf (fun n=>I n a w) from ⟨⟨n',hI'⟩,Nat.lt_of_le_of_lt ((leastOf_spec ⟨n',hI'⟩).2 n' hI') hlt⟩
 | exit id=>exact hq
 | goto l=>exact hq
 | ret=>exact hq
 | panic ch=>exact hq
 | outgrown=>exact hq
theorem inRound_wide (l:Nat):Fence.wide.inRound l=Fe (some l):=rfl
theorem zip2 {t:Array Value} {p q:Nat} {x y:Value}:(#[p,q].zip #[x,y]).foldl (fun t (s,v)=>t.setIfInBounds s v) t=(t.setIfInBounds p x).setIfInBounds q y:=by
 have e : #[p,q].zip #[x,y] = #[(p,x),(q,y)]:=by
  apply Array.ext'
  simp [Array.toList_zip]
 rw [e]; simp
theorem wpFe_n {ro:Option Nat} {n m:Nat} {P:Program} {c:Code} {Q:Exit→Act→World→Prop} {a:Act} {w:World} (h:c.wpIn (Fe ro) n P Q a w):c.wpIn (Fe ro) m P Q a w :=
 fun b k cs hro hb _=>h b k cs hro hb (fun _ hd=>by cases hd)
theorem mark_inj {l r:List Nat} (h:l.map mark=r.map mark):l=r:=by
 have:=congrArg (List.map fun d:Deferred=>match d.target with | .collected D=>D | _=>0) h
 simpa [mark,Function.comp_def] using this
theorem vc_sound {P:Program} {N:Nat} (hm:P.follows .mixedOrders=true) : ∀ (ac:AC) (code:Code) (top:Bool),chkC P N top code ac=true → ∀ {B:Nat} {ro:Option Nat} (_:top=true→ro=none) {ρ0:Nm→Loc} {H0:AH} {w0:World} {ρ:Nm→Loc} {t:Fr} {H:AH} {a:Act} {w:World} {Q':Qs} {Q:Exit→Act→World→Prop},
  vc P ac Q' t H→St B ρ0 H0 w0 N ρ t H a w→Clean H →
  (∀ t' H' ρ' a' w',St B ρ0 H0 w0 N ρ' t' H' a' w'→Clean H'→(Q'.nrm t' H'→Q .normal a' w')∧(∀ id,Q'.ext id t' H'→Q (.exit id) a' w')∧(Q'.ret t' H'→Q .ret a' w'))→code.wpIn (Fe ro) 0 P Q a w:=by
 intro ac
 induction ac with
 | skip =>
  intro code top hc B ro htop ρ0 H0 w0 ρ t H a w Q' Q h s hcl hq
  cases code <;> simp only [chkC,Bool.false_eq_true] at hc
  exact wpIn_skip ((hq t H ρ a w s hcl).1 h)
 | reg L c l =>
  intro code top hc B ro htop ρ0 H0 w0 ρ t H a w Q' Q h s hcl hq
  cases code <;> simp only [chkC,Bool.false_eq_true] at hc
  exact reg_sound (K:=fun t' H'=>Q'.nrm (rs L t') H') hm hc h s hcl fun t' H' ρ' a' w' hk hs hcl'=>(hq _ H' ρ' a' w' hs.rs hcl').1 hk
 | reg2 L c x y l =>
  intro code top hc B ro htop ρ0 H0 w0 ρ t H a w Q' Q h s hcl hq
  cases code <;> try (simp only [chkC,Bool.false_eq_true] at hc; done)
  rename_i id ops draw
  cases draw
  ·cases hc
  ·have hc:(chkReg2 P N ops x y l c&&(hasN x (insN l)&&hasN y (insN l)))=true:=hc
   rw [Bool.and_eq_true] at hc
   exact reg2_sound (K:=fun t' H'=>Q'.nrm (rs L t') H') hm hc.1 h.1 h.2 hc.2 s hcl fun t' H' ρ' a' w' hk hs hcl'=>(hq _ H' ρ' a' w' hs.rs hcl').1 hk
 | seq x y ihx ihy =>
  intro code top hc B ro htop ρ0 H0 w0 ρ t H a w Q' Q h s hcl hq
  cases code <;> simp only [chkC,Bool.false_eq_true,Bool.and_eq_true] at hc
  refine wpIn_seq (ihx _ top hc.1 htop h s hcl ?_)
  intro t' H' ρ' a' w' hs hcl'
  exact ⟨fun hk=>ihy _ top hc.2 htop hk hs hcl' hq,(hq t' H' ρ' a' w' hs hcl').2⟩
 | cond x b c ihb ihc =>
  intro code top hc B ro htop ρ0 H0 w0 ρ t H a w Q' Q h s hcl hq
  cases code <;> simp only [chkC,Bool.false_eq_true,Bool.and_eq_true] at hc
  simp only [vc] at h
  have hx:=chkX_rel s.tr hc.1.1
  cases hv:ev t x <;> simp only [hv] at h
  rename_i v
  rw [hv] at hx; simp only [VRel] at hx
  refine wpIn_cond_split hx ?_ ?_
  ·intro hh; exact ihb _ top hc.1.2 htop (h.1 hh) s hcl hq
  ·intro hh; exact ihc _ top hc.2 htop (h.2 hh) s hcl hq
 | blk id b ih =>
  intro code top hc B ro htop ρ0 H0 w0 ρ t H a w Q' Q h s hcl hq
  cases code <;> simp only [chkC,Bool.false_eq_true,Bool.and_eq_true,beq_iff_eq] at hc
  obtain ⟨rfl,hc⟩:=hc
  refine wpIn_block (ih _ top hc htop h s hcl ?_)
  intro t' H' ρ' a' w' hs hcl'
  have:=hq t' H' ρ' a' w' hs hcl'
  refine ⟨this.1,?_,this.2.2⟩
  intro i hi
  simp only [Exit.inBlock]
  split
  ·rename_i he; simp only [he,if_true] at hi; exact this.1 hi
  ·rename_i he; simp only [he,if_false] at hi; exact this.2.1 i hi
 | loop b ih =>
  intro code top hc B ro htop ρ0 H0 w0 ρ t H a w Q' Q h s hcl hq
  cases code <;> simp only [chkC,Bool.false_eq_true] at hc
  obtain ⟨I,n₀,hI,hround⟩:=h
  refine wpIn_loop_ghost (fun n a' w' => ∃ t' H' ρ',I n t' H'∧St B ρ H w N ρ' t' H' a' w'∧Clean H') n₀ ⟨t,H,ρ,hI,⟨s.hw,s.tr,s.sz,s.df,s.le,Ext.refl _ _ _⟩,hcl⟩ ?_
  rintro n a' w' ⟨t',H',ρ',hI',s',hcl'⟩
  obtain ⟨sup,hv⟩:=hround n t' H' hI' s'.ext.k hcl'
  refine ih _ top hc htop hv s'.sup hcl' ?_
  intro t2 H2 ρ2 a2 w2 s2 hcl2
  have hq2:=hq t2 H2 ρ2 a2 w2 ⟨s2.hw,s2.tr,s2.sz,s2.df,s2.le,s.ext.trans s2.ext⟩ hcl2
  refine ⟨?_,fun id hk=>hq2.2.1 id hk,fun hk=>hq2.2.2 hk⟩
  rintro ⟨n',hn',hI2⟩
  exact ⟨n',hn',t2,H2,ρ2,hI2,s2,hcl2⟩
 | exit id =>
  intro code top hc B ro htop ρ0 H0 w0 ρ t H a w Q' Q h s hcl hq
  cases code <;> simp only [chkC,Bool.false_eq_true,beq_iff_eq] at hc
  subst hc
  exact wpIn_exit ((hq t H ρ a w s hcl).2.1 _ h)
 | ret =>
  intro code top hc B ro htop ρ0 H0 w0 ρ t H a w Q' Q h s hcl hq
  cases code <;> simp only [chkC,Bool.false_eq_true] at hc
  exact wpIn_ret ((hq t H ρ a w s hcl).2.2 h)
 | rf x p q ac1 ac2 ih1 ih2 =>
  intro code top hc B ro htop ρ0 H0 w0 ρ t H a w Q' Q h s hcl hq
  cases code <;> simp only [chkC,Bool.false_eq_true,Bool.and_eq_true,decide_eq_true_eq] at hc
  rename_i fx ps assign body
  obtain ⟨⟨⟨⟨⟨⟨ht,hcx⟩,hps⟩,hpN⟩,hqN⟩,hca⟩,hcb⟩:=hc
  have hro:=htop ht
  subst hro
  subst hps
  have hpN:p<N:=by simpa [Nat.blt_eq] using hpN
  have hqN:q<N:=by simpa [Nat.blt_eq] using hqN
  have hx:=chkX_rel s.tr hcx
  simp only [vc] at h
  cases hv:ev t x <;> simp only [hv] at h
  rename_i g caps
  rw [hv] at hx; simp only [VRel] at hx
  obtain ⟨cs,hx,hcaps⟩:=hx
  obtain ⟨l,S,hit,⟨gfn,hgf,hgb,hgn⟩,I,hI0,hIS,hIr,hIe⟩:=h
  obtain ⟨gc,hgc⟩ : ∃ cd,gfn.body=some cd:=by
   cases hb:gfn.body with
   | none=>simp [hb] at hgb
   | some cd=>exact ⟨cd,rfl⟩
  refine wpIn_rangeFunc ?_
  intro fn hfn
  obtain ⟨rec,hrec⟩ : ∃ rec:LoopState→Option Code→Loop,rec=fun st pe=>{ state:=st,pending:=pe,fn,tmps:=a.tmps,params := #[p,q],assign,body,defers:=w.heap.size }:=⟨_,rfl⟩
  obtain ⟨W1,hW1⟩ : ∃ W1,(w.alloc (.deferred (some []))).alloc (.loop (rec .ready none))=W1:=⟨_,rfl⟩
  have hsz1:W1.heap.size=w.heap.size+2:=by rw [← hW1]; simp
  have hL1:W1.heap[w.heap.size+1]? = some (.loop (rec .ready none)):=by
   rw [← hW1]; have:=World.alloc_heap_new (w.alloc (.deferred (some []))) (.loop (rec .ready none)); rwa [World.size_alloc] at this
  have hK1:W1.heap[w.heap.size]? = some (.deferred (some [])):=by
   rw [← hW1]
   show ((w.heap.push _).push _)[w.heap.size]? = _
   rw [Array.getElem?_push_lt (by simp),Array.getElem_push_eq]
  have hw1:HRel ρ H W1:=by rw [← hW1]; exact s.hw.alloc.alloc
  have hx1:Ext ρ ρ H H w W1:=by rw [← hW1]; exact (Ext.refl ρ H w).alloc.alloc
  have hu : ∀ {ρ':Nm→Loc} {H':AH} {W:World},Ext ρ ρ' H H' w W→True:=fun _=>trivial
  let J:Nat→World→Prop:=fun i W => ∃ ρ' H',I i H'∧HRel ρ' H' W∧Clean H'∧Ext ρ ρ' H H' w W∧W.heap[w.heap.size+1]? = some (.loop (rec .ready none))∧W.heap[w.heap.size]? = some (.deferred (some []))∧unn ρ' H' (w.heap.size+1)∧unn ρ' H' w.heap.size
  let Jx:World→Prop:=fun W => ∃ c ρ' H',HRel ρ' H' W∧Clean H'∧Ext ρ ρ' H H' w W∧W.heap[w.heap.size+1]? = some (.loop (rec .done (some c)))∧W.heap[w.heap.size]? = some (.deferred (some []))∧unn ρ' H' (w.heap.size+1)∧unn ρ' H' w.heap.size ∧
   ((∃ id,c=.exit id∧Q'.ext id t H')∨(c=.ret∧Q'.ret t H'))
  have hst : ∀ {ρ':Nm→Loc} {H':AH} {W:World},HRel ρ' H' W→Ext ρ ρ' H H' w W→W.heap[w.heap.size]? = some (.deferred (some []))→unn ρ' H' w.heap.size →
    St B ρ0 H0 w0 N ρ' t H' { a with defers:=[mark w.heap.size]++a.defers } W:=by
   intro ρ' H' W h1 h2 h3 h4
   refine ⟨h1,fun x=>(s.tr x).mono h2.dom,s.sz,?_,Nat.le_trans s.le h2.size,s.ext.trans h2⟩
   obtain ⟨ls,m1,m2,m3⟩:=s.df.step h2
   refine ⟨w.heap.size::ls,List.nodup_cons.2 ⟨fun hm=>?_,m1⟩,by simp [m2],fun D hD=>?_⟩
   ·obtain ⟨ls0,n1,n2,n3⟩:=s.df
    have e:ls0=ls:=by
     have e1:ls0.map mark=ls.map mark:=by rw [← n2,m2]
     exact mark_inj e1
    subst e
    have:=(Array.getElem?_eq_some_iff.1 (n3 _ hm).2.1).1
    omega
   ·rcases List.mem_cons.1 hD with rfl | hD
    ·exact ⟨s.le,h3,h4⟩
    ·exact m3 D hD
  refine ⟨w.heap.size+1,[mark w.heap.size],W1,{ target:=.fn (.func g) cs,args := #[.func (.yield (w.heap.size+1)) #[] #[]] },W1,g,
   #[.func (.yield (w.heap.size+1)) #[] #[]]++cs,W1,?_,?_,fun _ _=>trivial,?_,(fun h=>by cases h),?_⟩
  ·rw [← hW1,hrec]; exact run_enterLoop_outer _ _ _ _ _
  ·simp only [resolve,hx]
   simp [go_sem]
  ·simp [invoke,callFunc,hgf,hgn,hgc]
  ·have hcall:=hit (w.heap.size+1) J Jx ρ W1 cs.toList hw1 (hcaps.mono hx1.dom) ?_ ?_ ⟨ρ,H,hI0,hw1,hcl,hx1,hL1,hK1,unn_lt s.hw (by omega),unn_lt s.hw (Nat.le_refl _)⟩
   ·have e:cs.toList.toArray=cs:=by simp
    rw [e] at hcall
    refine callsFe.2 ((callsIn_wide.1 hcall).mono ?_)
    rintro e W2 ⟨⟨v,rfl⟩,⟨ρ',H',hI',h1,h2,h3,h4,h5,h6,h7⟩ | ⟨c,ρ',H',h1,h2,h3,h4,h5,h6,h7,h8⟩⟩
    ·refine ⟨none,_,by have:=run_endLoop (P:=P) h4 (by rw [hrec]; simp); rw [hrec] at this; exact this,?_⟩
     exact (hq t H' ρ' _ _ (hst (h1.putObj h6) (h3.putObj (by omega)) ((World.putObj_heap_other (by omega)).trans h5) h7) h2).1 (hIe H' hI')
    ·refine ⟨some c,_,by have:=run_endLoop (P:=P) h4 (by rw [hrec]; simp); rw [hrec] at this; exact this,?_⟩
     have hq':=hq t H' ρ' _ _ (hst (h1.putObj (o:=.loop { rec .done (some c) with state:=.exhausted }) h6) (h3.putObj (by omega)) ((World.putObj_heap_other (by omega)).trans h5) h7) h2
     rw [hrec] at hq'
     rcases h8 with ⟨id,rfl,h8⟩ | ⟨rfl,h8⟩
     ·exact wpIn_exit (hq'.2.1 id h8)
     ·exact wpIn_ret (hq'.2.2 h8)
   ·rintro i W ⟨ρ',H',hI',h1,h2,h3,_⟩
    exact ⟨ρ',H',h1,h3.dom,hIS i H' hI' h3.k h2⟩
   ·
    rintro i W vx vy hi ⟨ρ',H',hI',h1,h2,h3,h4,h5,h6,h7⟩
    have hy:=run_yield (P:=P) (args := #[.int .i64 vx,.int .i64 vy]) h4 (by rw [hrec]; rfl)
    rw [hrec] at hy
    refine ⟨fn,_,assign,body,hy,roundIn_of_wpIn trivial ?_⟩
    clear hy
    rw [inRound_wide]
    obtain ⟨sup,hva⟩:=hIr i vx vy H' hi hI' h3.k h2
    have hst1:St 0 ρ' H' W N ρ' (put (some q) (.int .i64 vy) (put (some p) (.int .i64 vx) t)) H' { tmps:=(a.tmps.setIfInBounds p (.int .i64 vx)).setIfInBounds q (.int .i64 vy),defers:=[] } W:=by
     refine ⟨h1,?_,by simp [s.sz],Marks.nil,Nat.zero_le _,Ext.refl _ _ _⟩
     have ht0:TRel ρ' H'.D t { a with defers:=[] }:=fun x=>(s.tr x).mono h3.dom
     have ht1:=ht0.put (d:=some p) (v:=.int .i64 vx) (v':=.int .i64 vx) (by simp [VRel]) (fun x hx=>by cases hx; rw [show ({ a with defers:=[] }:Act).tmps.size=N from s.sz]; exact hpN)
     exact ht1.put (d:=some q) (v:=.int .i64 vy) (v':=.int .i64 vy) (by simp [VRel]) (fun x hx=>by cases hx; simp [Act.put,s.sz,hqN])
    simp only [zip2]
    refine wpFe_n (n:=0) ?_
    refine ih1 _ false hca (fun h=>by cases h) (B:=0) hva hst1.sup h2 ?_
    intro t1 H1 ρ1 a1 Wa s1 hcl1
    refine ⟨fun hk=>?_,fun id hk=>hk.elim,fun hk=>hk.elim⟩
    obtain ⟨sup2,hvb⟩:=hk hcl1
    have l1:Wa.heap[w.heap.size+1]? = some (.loop (rec .ready none)):=(s1.ext.frame _ (Array.getElem?_eq_some_iff.1 h4).1 h6).trans h4
    have d1:Wa.heap[w.heap.size]? = some (.deferred (some [])):=(s1.ext.frame _ (Array.getElem?_eq_some_iff.1 h5).1 h7).trans h5
    have u1:unn ρ1 H1 (w.heap.size+1):=h6.step (Array.getElem?_eq_some_iff.1 h4).1 s1.ext
    have u2:unn ρ1 H1 w.heap.size:=h7.step (Array.getElem?_eq_some_iff.1 h5).1 s1.ext
    have x1:Ext ρ ρ1 H H1 w Wa:=h3.trans s1.ext
    refine ⟨_,run_beginRound l1 (by rw [hrec]),?_⟩
    have l2:(Wa.putObj (w.heap.size+1) (.loop { rec .ready none with state:=.busy })).heap[w.heap.size+1]? = some (.loop { rec .ready none with state:=.busy }):=World.putObj_heap_same (Array.getElem?_eq_some_iff.1 l1).1
    have d2:(Wa.putObj (w.heap.size+1) (.loop { rec .ready none with state:=.busy })).heap[w.heap.size]? = some (.deferred (some [])):=(World.putObj_heap_other (by omega)).trans d1
    have x2:Ext ρ ρ1 H H1 w (Wa.putObj (w.heap.size+1) (.loop { rec .ready none with state:=.busy })):=x1.putObj (by omega)
    have hst2:St 0 ρ1 H1 (Wa.putObj (w.heap.size+1) (.loop { rec .ready none with state:=.busy })) N ρ1 t1 H1 a1 (Wa.putObj (w.heap.size+1) (.loop { rec .ready none with state:=.busy })) :=
     ⟨s1.hw.putObj u1,s1.tr,s1.sz,s1.df.putObj (by rw [l1]; simp),Nat.zero_le _,Ext.refl _ _ _⟩
    refine wpFe_n (n:=0) ?_
    refine ih2 _ false hcb (fun h=>by cases h) (B:=0) hvb hst2.sup hcl1 ?_
    intro t3 H3 ρ3 a3 W3 s3 hcl3
    have l3:W3.heap[w.heap.size+1]? = some (.loop { rec .ready none with state:=.busy }):=(s3.ext.frame _ (Array.getElem?_eq_some_iff.1 l2).1 u1).trans l2
    have d3:W3.heap[w.heap.size]? = some (.deferred (some [])):=(s3.ext.frame _ (Array.getElem?_eq_some_iff.1 d2).1 u2).trans d2
    have u3:unn ρ3 H3 (w.heap.size+1):=u1.step (Array.getElem?_eq_some_iff.1 l2).1 s3.ext
    have u4:unn ρ3 H3 w.heap.size:=u2.step (Array.getElem?_eq_some_iff.1 d2).1 s3.ext
    have x3:Ext ρ ρ3 H H3 w W3:=x2.trans s3.ext
    have fin : ∀ (jump:Option Code),(Instr.endRound (w.heap.size+1) jump).run P W3=.ok (.bool jump.isNone) (W3.putObj (w.heap.size+1) (.loop (rec (if jump.isNone then .ready else .done) jump))) ∧
      (W3.putObj (w.heap.size+1) (.loop (rec (if jump.isNone then .ready else .done) jump))).heap[w.heap.size+1]? = some (.loop (rec (if jump.isNone then .ready else .done) jump)) ∧
      (W3.putObj (w.heap.size+1) (.loop (rec (if jump.isNone then .ready else .done) jump))).heap[w.heap.size]? = some (.deferred (some [])):=fun jump=>by
     have:=run_endRound (P:=P) jump l3
     rw [hrec] at this ⊢
     exact ⟨this,World.putObj_heap_same (Array.getElem?_eq_some_iff.1 l3).1,(World.putObj_heap_other (by omega)).trans d3⟩
    refine ⟨fun hk=>?_,fun id hk=>?_,fun hk=>?_⟩
    ·obtain ⟨f1,f2,f3⟩:=fin none
     exact ⟨_,_,f1,.inl ⟨rfl,ρ3,H3,hk,s3.hw.putObj u3,hcl3,x3.putObj (by omega),f2,f3,u3,u4⟩⟩
    ·obtain ⟨f1,f2,f3⟩:=fin (some (.exit id))
     exact ⟨_,_,f1,.inr ⟨rfl,.exit id,ρ3,H3,s3.hw.putObj u3,hcl3,x3.putObj (by omega),f2,f3,u3,u4,.inl ⟨id,rfl,hk⟩⟩⟩
    ·obtain ⟨f1,f2,f3⟩:=fin (some .ret)
     exact ⟨_,_,f1,.inr ⟨rfl,.ret,ρ3,H3,s3.hw.putObj u3,hcl3,x3.putObj (by omega),f2,f3,u3,u4,.inr ⟨rfl,hk⟩⟩⟩
inductive Rs where
 | tmp (s:Nat)
 | cell (s:Nat)
 | cells (s n:Nat)
def resA (t:Fr) (H:AH):Rs→Option AV
 | .tmp s=>some (t s)
 | .cell s=>match t s with
  | .ptr n off=>H.rd n off
  | _=>none
 | .cells s n=>match t s with
  | .ptr m off=>(H.rdN m off n).map AV.agg
  | _=>none
def resL (t:Fr) (H:AH):List Rs→Option (List AV)
 | []=>some []
 | r::l=>match resA t H r,resL t H l with
  | some v,some vs=>some (v::vs)
  | _,_=>none
def one:List AV→AV
 | [v]=>v
 | l=>.tup l
def endQ (rs:List Rs) (K:AV→AH→Prop) (t:Fr) (H:AH):Prop:=match resL t H rs with
 | some l=>K (one l) H
 | none=>False
def chkRes (P:Program):List Rs→List ResultVar→Bool
 | [],[]=>true
 | .tmp s::l,.tmp s'::r=>s==s'&&chkRes P l r
 | .cell s::l,.cell s' T::r=>s==s'&&plainT P T&&chkRes P l r
 | .cells s n::l,.cell s' T::r=>s==s'&&aggT P T&&sizeT P T n&&chkRes P l r
 | _,_=>false
structure Fn where
 ar:Nat
 rs:List Rs
 ac:AC
def chkFn (P:Program) (f:FuncId) (g:Fn):Bool:=match P.funcs[f]? with
 | some fn=>match fn.body with
  | some c => fn.name != "runtime.NumGoroutine" && Nat.ble g.ar fn.ntmps && chkRes P g.rs fn.results.toList && chkC P fn.ntmps true c g.ac
  | none=>false
 | none=>false
def frA:Nat→List AV→List (Nat × AV)
 | _,[]=>[]
 | n,a::l=>(n,a)::frA (n+1) l
theorem frA_lkp : ∀ (l:List AV) (n s:Nat),lkp (frA n l) s=if n≤s then l.getD (s-n) .any else .any
 | [],n,s=>by simp [frA,lkp]
 | a::l,n,s=>by
  simp only [frA,lkp,frA_lkp l (n+1) s]
  cases h:n==s with
  | true =>
   have:n=s:=by simpa using h
   subst this; simp
  | false =>
   have:n≠s:=by simpa using h
   by_cases h1:n≤s
   ·have:n+1≤s:=by omega
    have e:s-n=(s-(n+1))+1:=by omega
    simp [h1,this,e]
   ·have : ¬ n+1≤s:=by omega
    simp [h1,this]
section
variable {P : Program} {ρ : Nm → Loc} {H : AH} {w : World} {t : Fr} {a : Act}
theorem resL_run (hw:HRel ρ H w) (ht:TRel ρ H.D t a) : ∀ {l:List Rs} {r:List ResultVar} {vs:List AV},chkRes P l r=true→resL t H l=some vs →
  ∃ us:List Value,((r.mapM fun | .tmp t=>pure (a.tmps.getD t undef) | .cell x t=>do loadVar t (← asAddr (a.tmps.getD x undef)):Sem (List Value))).run P w=.ok us w∧VRels ρ H.D vs us
 | [],[],vs,_,h=>by
  simp only [resL,Option.some.injEq] at h; subst h
  exact ⟨[],by simp [Sem.run_pure],by simp [VRels]⟩
 | [],_::_,_,h,_=>by simp [chkRes] at h
 | x::l,[],_,h,_=>by cases x <;> simp [chkRes] at h
 | x::l,y::r,vs,h,hv=>by
  simp only [resL] at hv
  cases h1:resA t H x with
  | none=>simp [h1] at hv
  | some v =>
   cases h2:resL t H l with
   | none=>simp [h1,h2] at hv
   | some vs' =>
    simp only [h1,h2,Option.some.injEq] at hv
    subst hv
    have key : ∃ u,((match y with | .tmp t=>pure (a.tmps.getD t undef) | .cell x t=>do loadVar t (← asAddr (a.tmps.getD x undef)):Sem Value)).run P w=.ok u w∧VRel ρ H.D v u∧chkRes P l r=true:=by
     cases x <;> cases y <;> simp only [chkRes,Bool.false_eq_true,Bool.and_eq_true,beq_iff_eq] at h
     case tmp.tmp s s' =>
      obtain ⟨rfl,h⟩:=h
      simp only [resA,Option.some.injEq] at h1; subst h1
      exact ⟨_,by simp [Sem.run_pure],ht s,h⟩
     case cell.cell s s' T =>
      obtain ⟨⟨rfl,hp⟩,h⟩:=h
      simp only [resA] at h1
      have hx:=ht s
      cases hts:t s <;> simp only [hts] at h1 <;> first | (cases h1; done) | skip
      rw [hts] at hx
      simp only [VRel] at hx
      obtain ⟨u,hu,hr⟩:=rd_cell hw h1
      refine ⟨u,?_,hr,h⟩
      simp only [hx.2,asAddr,loadVar,Sem.run_bind,Sem.run_pure,Result.andThen_ok,plainT_run hp]
      simp [hu]
     case cells.cell s n s' T =>
      obtain ⟨⟨⟨rfl,hp⟩,hz⟩,h⟩:=h
      simp only [resA] at h1
      have hx:=ht s
      cases hts:t s <;> simp only [hts] at h1 <;> first | (cases h1; done) | skip
      rw [hts] at hx
      simp only [VRel] at hx
      cases hl:H.rdN _ _ n with
      | none=>rw [hl] at h1; cases h1
      | some l =>
      rw [hl] at h1
      simp only [Option.map_some,Option.some.injEq] at h1
      subst h1
      obtain ⟨c,hcl,hr,hcc⟩:=rdN_cells hw hl
      refine ⟨.agg c.toArray,?_,by simp only [VRel]; exact ⟨_,rfl,by simpa using hr⟩,h⟩
      simp only [hx.2,asAddr,loadVar,Sem.run_bind,Sem.run_pure,Result.andThen_ok,aggT_run hp,sizeT_run hz,if_true,run_loadN hcl hcc]
    obtain ⟨u,k1,k2,k3⟩:=key
    obtain ⟨us,k4,k5⟩:=resL_run hw ht k3 h2
    refine ⟨u::us,?_,by simp only [VRels]; exact ⟨k2,k5⟩⟩
    rw [List.mapM_cons]
    simp only [Sem.run_bind,Sem.run_pure,k1,Result.andThen_ok,k4]
end
theorem results_run {P:Program} {ρ:Nm→Loc} {H:AH} {w:World} {t:Fr} {a:Act} (hw:HRel ρ H w) (ht:TRel ρ H.D t a) {fn:Func} {rs:List Rs} {vs:List AV} (hc:chkRes P rs fn.results.toList=true)
  (h:resL t H rs=some vs) : ∃ u,(results fn a.tmps).run P w=.ok u w∧VRel ρ H.D (one vs) u:=by
 obtain ⟨us,h1,h2⟩:=resL_run hw ht hc h
 refine ⟨if h:us.length=1 then us[0] else .tuple us.toArray,?_,?_⟩
 ·unfold results
  rw [Array.mapM_eq_mapM_toList]
  simp only [Sem.run_bind,map_eq_pure_bind,Sem.run_pure]
  erw [h1]
  simp
 ·cases vs with
  | nil=>cases us with
   | nil=>simp [one,VRel,VRels]
   | cons=>simp [VRels] at h2
  | cons v r=>cases us with
   | nil=>simp [VRels] at h2
   | cons u r' =>
    cases r with
    | nil=>cases r' with
     | nil=>simpa [one,VRels] using h2
     | cons=>simp [VRels] at h2
    | cons v2 r2=>cases r' with
     | nil=>simp [VRels] at h2
     | cons u2 r2'=>simpa [one,VRel] using h2
theorem fn_rule {P:Program} {f:FuncId} {g:Fn} {args:List AV} {H:AH} {K:AV→AH→Prop} (hm:P.follows .mixedOrders=true) (hc:chkFn P f g=true) (hlen:args.length=g.ar)
  (s:List Nm) (h:Clean H→vc P g.ac ⟨endQ g.rs K,fun _ _ _=>False,endQ g.rs K⟩ (fr (frA 0 args)) { H with sup:=s }):ACalls P f args H K:=by
 unfold chkFn at hc
 cases hf:P.funcs[f]? with
 | none=>simp [hf] at hc
 | some fn =>
  simp only [hf] at hc
  cases hb:fn.body with
  | none=>simp [hb] at hc
  | some c =>
   simp only [hb,Bool.and_eq_true,bne_iff_ne,ne_eq] at hc
   obtain ⟨⟨⟨hn,har⟩,hres⟩,hcc⟩:=hc
   refine ⟨⟨fn,hf,by simp [hb],hn⟩,?_⟩
   intro ρ w vs hw hcl hv
   have hvl:=hv.length
   refine callsIn_wide.1 (callsIn_of_wp_marks (F:=Fence.wide) (n:=0) hf hb trivial ?_)
   have har':args.length≤fn.ntmps:=by rw [hlen]; exact Nat.le_of_ble_eq_true har
   refine vc_sound (N:=fn.ntmps) hm g.ac c true hcc (B:=w.heap.size) (ro:=none) (fun _=>rfl) (ρ0:=ρ) (H0:=H) (w0:=w) (ρ:=ρ) (h hcl) ⟨hw.sup,?_,?_,Marks.nil,Nat.le_refl _,(Ext.refl _ _ _).sup⟩ hcl ?_
   ·intro s
    simp only [fr,frA_lkp,Nat.zero_le,if_true,Nat.sub_zero]
    cases ha:args[s]? with
    | none =>
     have:args.getD s .any=.any:=by simp [List.getD,ha]
     rw [this]; simp [VRel]
    | some x =>
     obtain ⟨v,hv1,hv2⟩:=hv.get s x ha
     have e1:args.getD s .any=x:=by simp [List.getD,ha]
     have hs:s<vs.length:=(List.getElem?_eq_some_iff.1 hv1).1
     have e2:(vs.toArray++Array.replicate (fn.ntmps-vs.toArray.size) undef).getD s undef=v:=by
      rw [Array.getD_eq_getD_getElem?,Array.getElem?_append_left (by simpa using hs)]
      simp [hv1]
     rw [e1,e2]; exact hv2
   ·simp; omega
   ·intro t' H' ρ' a' w' s' hcl'
    have fin:endQ g.rs K t' H'→LeavesInM Fence.wide 0 P fn a'.tmps (fun e w' => ∃ (x:AV) (v':Value) (ρ'':Nm→Loc) (H'':AH),e=.returned v'∧K x H''∧HRel ρ'' H'' w'∧Clean H''∧VRel ρ'' H''.D x v'∧Ext ρ ρ'' H H'' w w') a'.defers .returning w':=by
     intro hk
     unfold endQ at hk
     cases hl:resL t' H' g.rs with
     | none=>simp [hl] at hk
     | some l =>
      simp only [hl] at hk
      obtain ⟨ms,m1,m2,m3⟩:=s'.df
      rw [m2]
      have key : ∀ (ms:List Nat) (W:World),ms.Nodup→(∀ D∈ms,w.heap.size≤D∧W.heap[D]? = some (.deferred (some []))∧unn ρ' H' D)→HRel ρ' H' W→Ext ρ ρ' H H' w W →
        LeavesInM Fence.wide 0 P fn a'.tmps (fun e w' => ∃ (x:AV) (v':Value) (ρ'':Nm→Loc) (H'':AH),e=.returned v'∧K x H''∧HRel ρ'' H'' w'∧Clean H''∧VRel ρ'' H''.D x v'∧Ext ρ ρ'' H H'' w w') (ms.map mark) .returning W:=by
       intro ms
       induction ms with
       | nil =>
        intro W _ _ g1 g2
        obtain ⟨u,hu1,hu2⟩:=results_run g1 s'.tr hres hl
        exact ⟨u,hu1,one l,u,ρ',H',rfl,hk,g1,hcl',hu2,g2⟩
       | cons D r ih =>
        intro W g0 g3 g1 g2
        rw [List.nodup_cons] at g0
        obtain ⟨k1,k2,k3⟩:=g3 D (List.mem_cons_self ..)
        refine ⟨by simp,.inl ⟨D,_,rfl,run_takeDeferred k2,ih _ g0.2 (fun D' hD'=>?_) (g1.putObj k3) (g2.putObj k1)⟩⟩
        obtain ⟨j1,j2,j3⟩:=g3 D' (List.mem_cons_of_mem _ hD')
        exact ⟨j1,(World.putObj_heap_other (fun e=>g0.1 (by rw [e] at hD'; exact hD'))).trans j2,j3⟩
      exact key ms w' m1 m3 s'.hw s'.ext
    exact ⟨fin,fun id hk=>hk.elim,fin⟩
theorem ACalls.k {P:Program} {f:FuncId} {args:List AV} {H:AH} {K K':AV→AH→Prop} (h:ACalls P f args H K) (hk : ∀ v H',K v H'→H.k≤H'.k→Clean H'→K' v H'):ACalls P f args H K' :=
 ⟨h.1,fun ρ w vs hw hcl hv=>(h.2 ρ w vs hw hcl hv).mono fun _ _ ⟨v,v',ρ',H',e1,e2,e3,e4,e5,e6⟩=>⟨v,v',ρ',H',e1,hk _ _ e2 e6.k e4,e3,e4,e5,e6⟩⟩
end Go.Ab

namespace Go.Ab
open Go
abbrev Ins.i (n d:Nat) (a:AI):Ins:=⟨n,some d,none,[],a,0⟩
abbrev Ins.j (n:Nat) (a:AI):Ins:=⟨n,none,none,[],a,0⟩
abbrev Ins.mv (n d x:Nat):Ins:=⟨n,some d,none,[],.mov (.s x),0⟩
abbrev Ins.ck (n d x:Nat):Ins:=⟨n,some d,none,[],.chk (.s x),0⟩
abbrev Ins.f (n d x o:Nat):Ins:=⟨n,some d,none,[],.fa (.s x) o,0⟩
abbrev Ins.l (n d x:Nat):Ins:=⟨n,some d,none,[],.ld (.s x),0⟩
abbrev Ins.b (o:BinOp) (n d x y:Nat):Ins:=⟨n,some d,none,[],.bin o (.s x) (.s y),0⟩
abbrev Ins.e (n d x i:Nat):Ins:=⟨n,some d,none,[],.ext (.s x) i,0⟩
abbrev Ins.nt (n d x:Nat):Ins:=⟨n,some d,none,[],.not (.s x),0⟩
abbrev Ins.x (n d x y e:Nat):Ins:=⟨n,some d,none,[],.ix (.s x) (.s y) e,0⟩
abbrev Ins.st (n x y:Nat):Ins:=⟨n,none,none,[],.st (.s x) (.s y),0⟩
structure T {α:Sort _} (x:α):Type where
def EV (v:AV) (f:AV→Prop) (_:T f):Prop:=f v
def EO (o:Option AV) (f:AV→Prop) (_:T f):Prop:=match o with
 | some v=>f v
 | none=>False
def EI (b:Bool) (x y:Prop) (_:T (x,y)):Prop:=(b=true→x)∧(b=false→y)
def EB (v:AV) (x y:Prop) (_:T (x,y)):Prop:=match v with
 | .bool b=>EI b x y ⟨⟩
 | _=>False
def EG (v:AV) (x y z:Prop) (_:T (x,y,z)):Prop:=match v with
 | .bool b=>EI b x y ⟨⟩
 | .tup _=>z
 | _=>False
def EE (o:Option (AV × AH)) (f:AV→AH→Prop) (_:T f):Prop:=match o with
 | some (v,H)=>f v H
 | none=>False
def EL (l:List (Nat × AV)) (f:List (Nat × AV)→Prop) (_:T f):Prop:=f l
def EH (H:AH) (f:AH→Prop) (_:T f):Prop:=f H
def EA (l:List AV) (f:List AV→Prop) (_:T f):Prop:=f l
def EF (v:AV) (f:FuncId→List AV→Prop) (_:T f):Prop:=match v with
 | .fn g c=>f g c
 | _=>False
def V (P:Program) (r:List Ins) (K:Fr→AH→Prop) (l:List (Nat × AV)) (H:AH) (_:T (r,K,l,H)):Prop:=vcr P r K (fr l) H
def W (P:Program) (c:AC) (Q:Qs) (l:List (Nat × AV)) (H:AH) (_:T (c,Q,l,H)):Prop:=vc P c Q (fr l) H
def CA (P:Program) (g:FuncId) (as:List AV) (H:AH) (K:AV→AH→Prop) (_:T (as,H,K)):Prop:=ACalls P g as H K
theorem CA_i {P:Program} {g:FuncId} {as:List AV} {H:AH} {K K':AV→AH→Prop} {u:T (as,H,K')} (h:ACalls P g as H K) (hk : ∀ v H',K v H'→H.k≤H'.k→Clean H'→K' v H'):CA P g as H K' u:=h.k hk
def pickV (c a b:AV):Option AV:=match c with
 | .bool true=>some a
 | .bool false=>some b
 | _=>none
def ldV (H:AH):AV→Option AV
 | .ptr n off=>H.rd n off
 | _=>none
def ldnV (H:AH) (k:Nat):AV→Option AV
 | .ptr n off=>(H.rdN n off k).map AV.agg
 | _=>none
def chkV:AV→Option AV
 | .ptr n off=>some (.ptr n off)
 | .fn f c=>some (.fn f c)
 | _=>none
def eqV (H:AH) (neg:Bool) (e:EC) (x y:AV):Option AV:=match eqv H e x y with
 | some b=>some (.bool (if neg then !b else b))
 | none=>none
def notV:AV→Option AV
 | .bool b=>some (.bool !b)
 | _=>none
def negV:AV→Option AV
 | .int k n=>some (.int k (k.wrap (0-n)))
 | _=>none
def convV (k:IntKind):AV→Option AV
 | .int _ n=>some (.int k (k.wrap n))
 | _=>none
def faV (off:Nat):AV→Option AV
 | .ptr n o=>some (.ptr n (o+off))
 | _=>none
def ixV (esz:Nat):AV→AV→Option AV
 | .slice n _ off len,.int _ j=>if 0≤j∧j<len then some (.ptr n (off+j.toNat*esz)) else none
 | _,_=>none
def ixaV (len esz:Nat):AV→AV→Option AV
 | .ptr n off,.int _ j=>if 0≤j∧j<len then some (.ptr n (off+j.toNat*esz)) else none
 | _,_=>none
def idxV (len:Nat):AV→AV→Option AV
 | .agg l,.int _ j=>if 0≤j∧j<len∧l.length=len then some (l.getD j.toNat .any) else none
 | _,_=>none
def idxnV (len e:Nat):AV→AV→Option AV
 | .agg l,.int _ j=>if 0≤j∧j<len∧l.length=len*e then some (.agg ((l.drop (j.toNat*e)).take e)) else none
 | _,_=>none
def fldV (off:Nat):AV→Option AV
 | .agg l=>l[off]?
 | _=>none
def fldnV (off n:Nat):AV→Option AV
 | .agg l=>if off+n≤l.length then some (.agg ((l.drop off).take n)) else none
 | _=>none
def extV (i:Nat):AV→Option AV
 | .tup l=>l[i]?
 | _=>none
def bldV (o:Option (List AV)):Option AV:=o.map AV.agg
def lookM (H:AH) (r:Nat) (zero:AV) (ok:Bool) (n:Nm) (key:List Int):Option AV:=match H.mpAt r n with
 | some mp=>match mp key with
  | some v=>some (if ok then .tup [v,.bool true] else v)
  | none=>some (if ok then .tup [zero,.bool false] else zero)
 | _=>none
def lookV (H:AH) (r:Nat) (zero:AV) (ok:Bool) (m k:AV):Option AV:=match m,keyOf r k with
 | .map n,some key=>lookM H r zero ok n key
 | .nilm,some _=>some (if ok then .tup [zero,.bool false] else zero)
 | _,_=>none
def lenV:AV→Option AV
 | .slice _ _ _ len=>some (.int .i64 len)
 | .nils=>some (.int .i64 0)
 | _=>none
def slenV:AV→Option AV
 | .str s=>some (.int .i64 s.size)
 | _=>none
def mnV:List AV→Option AV
 | .int k a::r=>foldI (fun x y=>if y<x then y else x) (.int k a) r
 | _=>none
def mxV:List AV→Option AV
 | .int k a::r=>foldI (fun x y=>if y>x then y else x) (.int k a) r
 | _=>none
def strixV:AV→AV→Option AV
 | .str s,.int _ j=>if 0≤j∧j<s.size then some (.int .u8 ((s.data.getD j.toNat 0).toNat)) else none
 | _,_=>none
def entV (H:AH):AV→Option AV
 | .ptr it 0=>match H.f it with
  | some (.itr n)=>match H.f n with
   | some (.mpi _ mp it' (key::_) _)=>if it=it' then match mp key with
    | some v=>some (.tup [keyVal key,v])
    | none=>none
    else none
   | _=>none
  | _=>none
 | _=>none
def aloadV (H:AH):AV→Option AV
 | .ptr n off=>match H.rd n off with
  | some (.int .i64 v)=>some (.int .i64 v)
  | _=>none
 | _=>none
def add64V:AV→AV→AV→Option AV
 | .int _ a,.int _ b,.int _ d=>if 0≤a∧0≤b∧0≤d∧d≤1 then some (.tup [.int .u64 ((a+b+d) % 2 ^ 64),.int .u64 ((a+b+d) / 2 ^ 64)]) else none
 | _,_,_=>none
def stO (H:AH) (n:Nm) (off:Nat) (v:AV):Option AO→Option (AV × AH)
 | some (.row c g)=>if off<c∧v.scalar then some (.any,H.set n (.row c (upd g off v))) else none
 | _=>none
def stV (H:AH) (a v:AV):Option (AV × AH):=match a with
 | .ptr n off=>stO H n off v (H.f n)
 | _=>none
def stnO (H:AH) (n:Nm) (off k:Nat) (l:List AV):Option AO→Option (AV × AH)
 | some (.row c g)=>if off+k≤c∧l.length=k∧l.all AV.scalar then some (.any,H.set n (.row c (updN g off l))) else none
 | _=>none
def stnV (H:AH) (k:Nat) (a v:AV):Option (AV × AH):=match a,v with
 | .ptr n off,.agg l=>stnO H n off k l (H.f n)
 | _,_=>none
def boxV (H:AH) (n:Nm) (v:AV):Option (AV × AH):=if v.cells.all AV.scalar then some (.ptr n 0,H.set n (.row v.cells.length (cs v.cells))) else none
def bslV (H:AH) (n:Nm) (len e:Nat):Option (List AV)→Option (AV × AH)
 | some l=>if l.length=len*e then some (.slice n e 0 len,H.set n (.row l.length (cs l))) else none
 | none=>none
def mupdO (H:AH) (r:Nat) (n:Nm) (key:List Int) (v:AV):Option AO→Option (AV × AH)
 | some (.mp r' mp)=>if r'=r then some (.any,H.set n (.mp r (mset mp key (some v)))) else none
 | some (.mpi r' mp it seen c)=>if r'=r then match mp key with
  | some _=>some (.any,H.set n (.mpi r (mset mp key (some v)) it seen c))
  | none=>none
  else none
 | _=>none
def mupdV (H:AH) (r:Nat) (m k v:AV):Option (AV × AH):=match m,keyOf r k with
 | .map n,some key=>mupdO H r n key v (H.f n)
 | _,_=>none
def estO (H:AH) (n:Nm) (b:Int) (v:AV):Option AO→Option (AV × AH)
 | some (.mpb r mp key b')=>if b=b' then some (.any,H.set n (.mp r (mset mp key (some v)))) else none
 | _=>none
def estV (H:AH) (m s v:AV):Option (AV × AH):=match m,s with
 | .map n,.int _ b=>estO H n b v (H.f n)
 | _,_=>none
def delO (H:AH) (r:Nat) (n:Nm) (key:List Int):Option AO→Option (AV × AH)
 | some (.mp r' mp)=>if r'=r then some (.any,H.set n (.mp r (mset mp key none))) else none
 | some (.mpi r' mp it seen c)=>if r'=r then some (.any,H.set n (.mpi r (mset mp key none) it seen c)) else none
 | _=>none
def delV (H:AH) (r:Nat) (m k:AV):Option (AV × AH):=match m,keyOf r k with
 | .map n,some key=>delO H r n key (H.f n)
 | .nilm,some _=>some (.any,H)
 | _,_=>none
def appO (H:AH) (n':Nm) (esz:Nat) (l:List AV) (n:Nm) (e len:Nat):Option AO→Option (AV × AH)
 | some (.row c g) =>
  if e=esz∧c=len*esz∧len≤2 ^ 32 then
   if l.length=0 then some (.slice n e 0 len,H)
   else some (.slice n' e 0 (len+l.length / esz),(H.set n .dead).set n' (.row (c+l.length) fun i=>if i<c then g i else l.getD (i-c) .any))
  else none
 | _=>none
def appL (H:AH) (n':Nm) (esz:Nat) (s:AV):Option (List AV)→Option (AV × AH)
 | some l=>if 2 ^ 32<l.length∨l.all AV.scalar=false then none else match s with
  | .nils=>if l.length=0 then some (.nils,H) else some (.slice n' esz 0 (l.length / esz),H.set n' (.row l.length (cs l)))
  | .slice n e 0 len=>appO H n' esz l n e len (H.f n)
  | _=>none
 | none=>none
def appV (H:AH) (n':Nm) (esz:Nat) (s x:AV):Option (AV × AH):=appL H n' esz s (appd H esz x)
def acasV (H:AH) (x o n:AV):Option (AV × AH):=match x,o,n with
 | .ptr m off,.int _ a,.int k b=>match H.f m with
  | some (.row c g)=>if off<c then match g off with
    | .int .i64 v=>if v=a then some (.bool true,H.set m (.row c (upd g off (.int k b)))) else some (.bool false,H)
    | _=>none
   else none
  | _=>none
 | _,_,_=>none
def clrV (H:AH) (x:AV):Option (AV × AH):=match x with
 | .nils=>some (.any,H)
 | .slice n e off len=>if len=0 then some (.any,H) else match H.f n with
  | some (.row c g)=>if e=1∧off+len≤c then some (.any,H.set n (.row c (updN g off (List.replicate len (.int .i64 0))))) else none
  | _=>none
 | _=>none
section
variable {P : Program} {K : Fr → AH → Prop} {l : List (Nat × AV)} {H : AH} {n d : Nat} {r : List Ins} {Q : Qs} {h : List Hold}
theorem put_fr {v:AV}:put (some d) v (fr l)=fr ((d,v)::l):=by
 funext s
 simp only [put,fr,lkp]
 rw [Bool.beq_comm]
@[go_sem ↓] theorem V_nil {u:T (([]:List Ins),K,l,H)}:V P [] K l H u=K (fr l) H:=rfl
theorem V_pure {a:AI} {o:Option AV} {u:T ((⟨n,some d,none,h,a,0⟩:Ins)::r,K,l,H)} (hc:a.cl=.p∨a.cl=.r) (ho:pureV H (fr l) a=o):V P (⟨n,some d,none,h,a,0⟩::r) K l H u=EO o (fun v=>V P r K ((d,v)::l) H ⟨⟩) ⟨⟩:=by
 have:vcr P (⟨n,some d,none,h,a,0⟩::r) K (fr l) H↔_:=Out_pr (P:=P) (bm:=0) (t:=fr l) (H:=H) (J:=fun b v H'=>(b=true→holdsOk h (fr l) H')∧vcr P r K (put (some d) v (fr l)) H') hc
 unfold V
 apply propext
 rw [this,ho]
 unfold EO
 cases o with
 | none=>simp
 | some v=>simp [put_fr]
@[go_sem] theorem holdsOk_nil {t:Fr} {H:AH}:holdsOk [] t H=True:=eq_true fun p hp=>by cases hp
theorem holdsOk_cons {t:Fr} {H:AH} {d:Nat} {a:AI} {g:Option (Nat × Bool)}:holdsOk ((g,d,a)::h) t H=((gd g t=some true→pureV H t a=some (t d))∧holdsOk h t H):=by
 simp [holdsOk]
theorem OutD_eff {t:Fr} {J:Bool→AV→AH→Prop} {a:AI} (hp:pureV H t a=none) (hq:a.q=none):OutD t H J a↔EE (effV H.nm H t a) (fun v H'=>J true v H') ⟨⟩:=by
 unfold OutD EE
 rw [hp]
 cases effV H.nm H t a with
 | none=>exact Iff.rfl
 | some p=>simp [hq]
theorem V_eff {a:AI} {o:Option (AV × AH)} {u:T ((⟨n,none,none,h,a,0⟩:Ins)::r,K,l,H)} (hp : ∀ H t,pureV H t a=none) (hq:a.q=none) (hO : ∀ (bm:Nat) (t:Fr) (H:AH) (J:Bool→AV→AH→Prop),Out P bm t H J a=OutD t H J a)
  (ho:effV H.nm H (fr l) a=o):V P (⟨n,none,none,h,a,0⟩::r) K l H u=EE o (fun _ H'=>holdsOk h (fr l) H'∧V P r K l H' ⟨⟩) ⟨⟩:=by
 have e:vcr P (⟨n,none,none,h,a,0⟩::r) K (fr l) H↔Out P 0 (fr l) H (fun b v H'=>(b=true→holdsOk h (fr l) H')∧vcr P r K (put none v (fr l)) H') a:=Iff.rfl
 unfold V
 rw [propext e,hO,propext (OutD_eff (hp _ _) hq),ho]
 simp only [EE]
 cases o with
 | none=>rfl
 | some p=>simp [put]
theorem V_effi {a:AI} {o:Option (AV × AH)} {u:T ((⟨n,some d,none,h,a,0⟩:Ins)::r,K,l,H)} (hp : ∀ H t,pureV H t a=none) (hq:a.q=none) (hO : ∀ (bm:Nat) (t:Fr) (H:AH) (J:Bool→AV→AH→Prop),Out P bm t H J a=OutD t H J a)
  (ho:effV H.nm H (fr l) a=o):V P (⟨n,some d,none,h,a,0⟩::r) K l H u=EE o (fun v H'=>holdsOk h (fr l) H'∧V P r K ((d,v)::l) H' ⟨⟩) ⟨⟩:=by
 have e:vcr P (⟨n,some d,none,h,a,0⟩::r) K (fr l) H↔Out P 0 (fr l) H (fun b v H'=>(b=true→holdsOk h (fr l) H')∧vcr P r K (put (some d) v (fr l)) H') a:=Iff.rfl
 unfold V
 rw [propext e,hO,propext (OutD_eff (hp _ _) hq),ho]
 simp only [EE]
 cases o with
 | none=>rfl
 | some p=>simp [put_fr]
theorem V_new {a:AI} {q:Nat} {o:Option (AV × AH)} {u:T ((⟨n,some d,none,h,a,0⟩:Ins)::r,K,l,H)} (hp : ∀ H t,pureV H t a=none) (hq:a.q=some q) (hO : ∀ (bm:Nat) (t:Fr) (H:AH) (J:Bool→AV→AH→Prop),Out P bm t H J a=OutD t H J a)
  (ho:effV H.nm H (fr l) a=o):V P (⟨n,some d,none,h,a,0⟩::r) K l H u=EE o (fun v H'=>H.nmOk q∧holdsOk h (fr l) H'∧V P r K ((d,v)::l) H' ⟨⟩) ⟨⟩:=by
 have e:vcr P (⟨n,some d,none,h,a,0⟩::r) K (fr l) H↔Out P 0 (fr l) H (fun b v H'=>(b=true→holdsOk h (fr l) H')∧vcr P r K (put (some d) v (fr l)) H') a:=Iff.rfl
 unfold V
 rw [propext e,hO]
 unfold OutD EE
 rw [hp,ho]
 cases o with
 | none=>rfl
 | some p=>simp [put_fr,hq]
@[go_sem ↓] theorem V_mov {x:X} {u:T ((⟨n,some d,none,h,.mov x,0⟩:Ins)::r,K,l,H)}:V P (⟨n,some d,none,h,.mov x,0⟩::r) K l H u=EV (ev (fr l) x) (fun v=>V P r K ((d,v)::l) H ⟨⟩) ⟨⟩:=V_pure (.inl rfl) rfl
@[go_sem ↓] theorem V_pick {a b c:X} {u:T ((⟨n,some d,none,h,.pick a b c,0⟩:Ins)::r,K,l,H)}:V P (⟨n,some d,none,h,.pick a b c,0⟩::r) K l H u=EO (pickV (ev (fr l) a) (ev (fr l) b) (ev (fr l) c)) (fun v=>V P r K ((d,v)::l) H ⟨⟩) ⟨⟩:=V_pure (.inl rfl) (by first | rfl | (simp only [pureV]; rfl))
@[go_sem ↓] theorem V_ld {x:X} {u:T ((⟨n,some d,none,h,.ld x,0⟩:Ins)::r,K,l,H)}:V P (⟨n,some d,none,h,.ld x,0⟩::r) K l H u=EO (ldV H (ev (fr l) x)) (fun v=>V P r K ((d,v)::l) H ⟨⟩) ⟨⟩:=V_pure (.inr rfl) (by first | rfl | (simp only [pureV]; rfl))
@[go_sem ↓] theorem V_ldn {x:X} {k:Nat} {u:T ((⟨n,some d,none,h,.ldn x k,0⟩:Ins)::r,K,l,H)}:V P (⟨n,some d,none,h,.ldn x k,0⟩::r) K l H u=EO (ldnV H k (ev (fr l) x)) (fun v=>V P r K ((d,v)::l) H ⟨⟩) ⟨⟩:=V_pure (.inr rfl) (by first | rfl | (simp only [pureV]; rfl))
@[go_sem ↓] theorem V_chk {x:X} {u:T ((⟨n,some d,none,h,.chk x,0⟩:Ins)::r,K,l,H)}:V P (⟨n,some d,none,h,.chk x,0⟩::r) K l H u=EO (chkV (ev (fr l) x)) (fun v=>V P r K ((d,v)::l) H ⟨⟩) ⟨⟩:=V_pure (.inl rfl) (by first | rfl | (simp only [pureV]; rfl))
@[go_sem ↓] theorem V_bin {o:BinOp} {x y:X} {u:T ((⟨n,some d,none,h,.bin o x y,0⟩:Ins)::r,K,l,H)}:V P (⟨n,some d,none,h,.bin o x y,0⟩::r) K l H u=EO (binop o (ev (fr l) x) (ev (fr l) y)) (fun v=>V P r K ((d,v)::l) H ⟨⟩) ⟨⟩:=V_pure (.inl rfl) (by first | rfl | (simp only [pureV]; rfl))
@[go_sem ↓] theorem V_eq {o:Bool} {e:EC} {x y:X} {u:T ((⟨n,some d,none,h,.eq o e x y,0⟩:Ins)::r,K,l,H)}:V P (⟨n,some d,none,h,.eq o e x y,0⟩::r) K l H u=EO (eqV H o e (ev (fr l) x) (ev (fr l) y)) (fun v=>V P r K ((d,v)::l) H ⟨⟩) ⟨⟩:=V_pure (.inr rfl) (by first | rfl | (simp only [pureV]; rfl))
@[go_sem ↓] theorem V_not {x:X} {u:T ((⟨n,some d,none,h,.not x,0⟩:Ins)::r,K,l,H)}:V P (⟨n,some d,none,h,.not x,0⟩::r) K l H u=EO (notV (ev (fr l) x)) (fun v=>V P r K ((d,v)::l) H ⟨⟩) ⟨⟩:=V_pure (.inl rfl) (by first | rfl | (simp only [pureV]; rfl))
@[go_sem ↓] theorem V_neg {x:X} {u:T ((⟨n,some d,none,h,.neg x,0⟩:Ins)::r,K,l,H)}:V P (⟨n,some d,none,h,.neg x,0⟩::r) K l H u=EO (negV (ev (fr l) x)) (fun v=>V P r K ((d,v)::l) H ⟨⟩) ⟨⟩:=V_pure (.inl rfl) (by first | rfl | (simp only [pureV]; rfl))
@[go_sem ↓] theorem V_conv {k:IntKind} {x:X} {u:T ((⟨n,some d,none,h,.conv k x,0⟩:Ins)::r,K,l,H)}:V P (⟨n,some d,none,h,.conv k x,0⟩::r) K l H u=EO (convV k (ev (fr l) x)) (fun v=>V P r K ((d,v)::l) H ⟨⟩) ⟨⟩:=V_pure (.inl rfl) (by first | rfl | (simp only [pureV]; rfl))
@[go_sem ↓] theorem V_fa {x:X} {k:Nat} {u:T ((⟨n,some d,none,h,.fa x k,0⟩:Ins)::r,K,l,H)}:V P (⟨n,some d,none,h,.fa x k,0⟩::r) K l H u=EO (faV k (ev (fr l) x)) (fun v=>V P r K ((d,v)::l) H ⟨⟩) ⟨⟩:=V_pure (.inl rfl) (by first | rfl | (simp only [pureV]; rfl))
@[go_sem ↓] theorem V_ix {x y:X} {k:Nat} {u:T ((⟨n,some d,none,h,.ix x y k,0⟩:Ins)::r,K,l,H)}:V P (⟨n,some d,none,h,.ix x y k,0⟩::r) K l H u=EO (ixV k (ev (fr l) x) (ev (fr l) y)) (fun v=>V P r K ((d,v)::l) H ⟨⟩) ⟨⟩:=V_pure (.inl rfl) (by first | rfl | (simp only [pureV]; rfl))
@[go_sem ↓] theorem V_ixa {x y:X} {k k':Nat} {u:T ((⟨n,some d,none,h,.ixa x y k k',0⟩:Ins)::r,K,l,H)}:V P (⟨n,some d,none,h,.ixa x y k k',0⟩::r) K l H u=EO (ixaV k k' (ev (fr l) x) (ev (fr l) y)) (fun v=>V P r K ((d,v)::l) H ⟨⟩) ⟨⟩:=V_pure (.inl rfl) (by first | rfl | (simp only [pureV]; rfl))
@[go_sem ↓] theorem V_idx {x y:X} {k:Nat} {u:T ((⟨n,some d,none,h,.idx x y k,0⟩:Ins)::r,K,l,H)}:V P (⟨n,some d,none,h,.idx x y k,0⟩::r) K l H u=EO (idxV k (ev (fr l) x) (ev (fr l) y)) (fun v=>V P r K ((d,v)::l) H ⟨⟩) ⟨⟩:=V_pure (.inl rfl) (by first | rfl | (simp only [pureV]; rfl))
@[go_sem ↓] theorem V_idxn {x y:X} {k e:Nat} {u:T ((⟨n,some d,none,h,.idxn x y k e,0⟩:Ins)::r,K,l,H)}:V P (⟨n,some d,none,h,.idxn x y k e,0⟩::r) K l H u=EO (idxnV k e (ev (fr l) x) (ev (fr l) y)) (fun v=>V P r K ((d,v)::l) H ⟨⟩) ⟨⟩:=V_pure (.inl rfl) (by first | rfl | (simp only [pureV]; rfl))
@[go_sem ↓] theorem V_fld {x:X} {k:Nat} {u:T ((⟨n,some d,none,h,.fld x k,0⟩:Ins)::r,K,l,H)}:V P (⟨n,some d,none,h,.fld x k,0⟩::r) K l H u=EO (fldV k (ev (fr l) x)) (fun v=>V P r K ((d,v)::l) H ⟨⟩) ⟨⟩:=V_pure (.inl rfl) (by first | rfl | (simp only [pureV]; rfl))
@[go_sem ↓] theorem V_fldn {x:X} {k k':Nat} {u:T ((⟨n,some d,none,h,.fldn x k k',0⟩:Ins)::r,K,l,H)}:V P (⟨n,some d,none,h,.fldn x k k',0⟩::r) K l H u=EO (fldnV k k' (ev (fr l) x)) (fun v=>V P r K ((d,v)::l) H ⟨⟩) ⟨⟩:=V_pure (.inl rfl) (by first | rfl | (simp only [pureV]; rfl))
@[go_sem ↓] theorem V_ext {x:X} {k:Nat} {u:T ((⟨n,some d,none,h,.ext x k,0⟩:Ins)::r,K,l,H)}:V P (⟨n,some d,none,h,.ext x k,0⟩::r) K l H u=EO (extV k (ev (fr l) x)) (fun v=>V P r K ((d,v)::l) H ⟨⟩) ⟨⟩:=V_pure (.inl rfl) (by first | rfl | (simp only [pureV]; rfl))
@[go_sem ↓] theorem V_bld {z:List AV} {p:List (Nat × Nat × X)} {u:T ((⟨n,some d,none,h,.bld z p,0⟩:Ins)::r,K,l,H)}:V P (⟨n,some d,none,h,.bld z p,0⟩::r) K l H u=EO (bldV (fillP (fr l) z p)) (fun v=>V P r K ((d,v)::l) H ⟨⟩) ⟨⟩:=V_pure (.inl rfl) (by first | rfl | (simp only [pureV]; rfl))
@[go_sem ↓] theorem V_mkf {f:FuncId} {c:List X} {u:T ((⟨n,some d,none,h,.mkf f c,0⟩:Ins)::r,K,l,H)}:V P (⟨n,some d,none,h,.mkf f c,0⟩::r) K l H u=EO (some (.fn f (evs (fr l) c))) (fun v=>V P r K ((d,v)::l) H ⟨⟩) ⟨⟩:=V_pure (.inl rfl) (by first | rfl | (simp only [pureV]; rfl))
@[go_sem ↓] theorem V_look {m:Nat} {x y:X} {z:AV} {o:Bool} {u:T ((⟨n,some d,none,h,.look m x y z o,0⟩:Ins)::r,K,l,H)}:V P (⟨n,some d,none,h,.look m x y z o,0⟩::r) K l H u=EO (lookV H m z o (ev (fr l) x) (ev (fr l) y)) (fun v=>V P r K ((d,v)::l) H ⟨⟩) ⟨⟩:=V_pure (.inr rfl) (by first | rfl | (simp only [pureV]; rfl))
@[go_sem ↓] theorem V_len {x:X} {u:T ((⟨n,some d,none,h,.len x,0⟩:Ins)::r,K,l,H)}:V P (⟨n,some d,none,h,.len x,0⟩::r) K l H u=EO (lenV (ev (fr l) x)) (fun v=>V P r K ((d,v)::l) H ⟨⟩) ⟨⟩:=V_pure (.inl rfl) (by first | rfl | (simp only [pureV]; rfl))
@[go_sem ↓] theorem V_slen {x:X} {u:T ((⟨n,some d,none,h,.slen x,0⟩:Ins)::r,K,l,H)}:V P (⟨n,some d,none,h,.slen x,0⟩::r) K l H u=EO (slenV (ev (fr l) x)) (fun v=>V P r K ((d,v)::l) H ⟨⟩) ⟨⟩:=V_pure (.inl rfl) (by first | rfl | (simp only [pureV]; rfl))
@[go_sem ↓] theorem V_lent {k:Nat} {u:T ((⟨n,some d,none,h,.lent k,0⟩:Ins)::r,K,l,H)}:V P (⟨n,some d,none,h,.lent k,0⟩::r) K l H u=EO (some (.int .i64 k)) (fun v=>V P r K ((d,v)::l) H ⟨⟩) ⟨⟩:=V_pure (.inl rfl) (by first | rfl | (simp only [pureV]; rfl))
@[go_sem ↓] theorem V_mn {x:List X} {u:T ((⟨n,some d,none,h,.mn x,0⟩:Ins)::r,K,l,H)}:V P (⟨n,some d,none,h,.mn x,0⟩::r) K l H u=EO (mnV (evs (fr l) x)) (fun v=>V P r K ((d,v)::l) H ⟨⟩) ⟨⟩:=V_pure (.inl rfl) (by first | rfl | (simp only [pureV]; rfl))
@[go_sem ↓] theorem V_mx {x:List X} {u:T ((⟨n,some d,none,h,.mx x,0⟩:Ins)::r,K,l,H)}:V P (⟨n,some d,none,h,.mx x,0⟩::r) K l H u=EO (mxV (evs (fr l) x)) (fun v=>V P r K ((d,v)::l) H ⟨⟩) ⟨⟩:=V_pure (.inl rfl) (by first | rfl | (simp only [pureV]; rfl))
@[go_sem ↓] theorem V_slc {x:X} {a b:Option X} {k:Nat} {u:T ((⟨n,some d,none,h,.slc x a b k,0⟩:Ins)::r,K,l,H)}:V P (⟨n,some d,none,h,.slc x a b k,0⟩::r) K l H u=EO (slcV (ev (fr l) x) (a.map (ev (fr l))) (b.map (ev (fr l))) k) (fun v=>V P r K ((d,v)::l) H ⟨⟩) ⟨⟩:=V_pure (.inl rfl) (by first | rfl | (simp only [pureV]; rfl))
@[go_sem ↓] theorem V_sslc {x:X} {a b:Option X} {u:T ((⟨n,some d,none,h,.sslc x a b,0⟩:Ins)::r,K,l,H)}:V P (⟨n,some d,none,h,.sslc x a b,0⟩::r) K l H u=EO (sslcV (ev (fr l) x) (a.map (ev (fr l))) (b.map (ev (fr l)))) (fun v=>V P r K ((d,v)::l) H ⟨⟩) ⟨⟩:=V_pure (.inl rfl) (by first | rfl | (simp only [pureV]; rfl))
@[go_sem ↓] theorem V_strix {x y:X} {u:T ((⟨n,some d,none,h,.strix x y,0⟩:Ins)::r,K,l,H)}:V P (⟨n,some d,none,h,.strix x y,0⟩::r) K l H u=EO (strixV (ev (fr l) x) (ev (fr l) y)) (fun v=>V P r K ((d,v)::l) H ⟨⟩) ⟨⟩:=V_pure (.inl rfl) (by first | rfl | (simp only [pureV]; rfl))
@[go_sem ↓] theorem V_ent {x:X} {u:T ((⟨n,some d,none,h,.ent x,0⟩:Ins)::r,K,l,H)}:V P (⟨n,some d,none,h,.ent x,0⟩::r) K l H u=EO (entV H (ev (fr l) x)) (fun v=>V P r K ((d,v)::l) H ⟨⟩) ⟨⟩:=V_pure (.inr rfl) (by first | rfl | (simp only [pureV]; rfl))
@[go_sem ↓] theorem V_aload {x:X} {u:T ((⟨n,some d,none,h,.aload x,0⟩:Ins)::r,K,l,H)}:V P (⟨n,some d,none,h,.aload x,0⟩::r) K l H u=EO (aloadV H (ev (fr l) x)) (fun v=>V P r K ((d,v)::l) H ⟨⟩) ⟨⟩:=V_pure (.inr rfl) (by first | rfl | (simp only [pureV]; rfl))
@[go_sem ↓] theorem V_add64 {x y z:X} {u:T ((⟨n,some d,none,h,.add64 x y z,0⟩:Ins)::r,K,l,H)}:V P (⟨n,some d,none,h,.add64 x y z,0⟩::r) K l H u=EO (add64V (ev (fr l) x) (ev (fr l) y) (ev (fr l) z)) (fun v=>V P r K ((d,v)::l) H ⟨⟩) ⟨⟩:=V_pure (.inl rfl) (by first | rfl | (simp only [pureV]; rfl))
@[go_sem ↓] theorem V_st {x y:X} {u:T ((⟨n,none,none,h,.st x y,0⟩:Ins)::r,K,l,H)}:V P (⟨n,none,none,h,.st x y,0⟩::r) K l H u=EE (stV H (ev (fr l) x) (ev (fr l) y)) (fun _ H'=>holdsOk h (fr l) H'∧V P r K l H' ⟨⟩) ⟨⟩:=V_eff (fun _ _=>rfl) rfl (fun _ _ _ _=>rfl) (by first | rfl | (simp only [effV]; rfl))
@[go_sem ↓] theorem V_sti {x y:X} {u:T ((⟨n,some d,none,h,.st x y,0⟩:Ins)::r,K,l,H)}:V P (⟨n,some d,none,h,.st x y,0⟩::r) K l H u=EE (stV H (ev (fr l) x) (ev (fr l) y)) (fun v H'=>holdsOk h (fr l) H'∧V P r K ((d,v)::l) H' ⟨⟩) ⟨⟩:=V_effi (fun _ _=>rfl) rfl (fun _ _ _ _=>rfl) (by first | rfl | (simp only [effV]; rfl))
@[go_sem ↓] theorem V_stn {x y:X} {k:Nat} {u:T ((⟨n,none,none,h,.stn x y k,0⟩:Ins)::r,K,l,H)}:V P (⟨n,none,none,h,.stn x y k,0⟩::r) K l H u=EE (stnV H k (ev (fr l) x) (ev (fr l) y)) (fun _ H'=>holdsOk h (fr l) H'∧V P r K l H' ⟨⟩) ⟨⟩:=V_eff (fun _ _=>rfl) rfl (fun _ _ _ _=>rfl) (by first | rfl | (simp only [effV]; rfl))
@[go_sem ↓] theorem V_stni {x y:X} {k:Nat} {u:T ((⟨n,some d,none,h,.stn x y k,0⟩:Ins)::r,K,l,H)}:V P (⟨n,some d,none,h,.stn x y k,0⟩::r) K l H u=EE (stnV H k (ev (fr l) x) (ev (fr l) y)) (fun v H'=>holdsOk h (fr l) H'∧V P r K ((d,v)::l) H' ⟨⟩) ⟨⟩:=V_effi (fun _ _=>rfl) rfl (fun _ _ _ _=>rfl) (by first | rfl | (simp only [effV]; rfl))
@[go_sem ↓] theorem V_mupd {m:Nat} {x y z:X} {u:T ((⟨n,none,none,h,.mupd m x y z,0⟩:Ins)::r,K,l,H)}:V P (⟨n,none,none,h,.mupd m x y z,0⟩::r) K l H u=EE (mupdV H m (ev (fr l) x) (ev (fr l) y) (ev (fr l) z)) (fun _ H'=>holdsOk h (fr l) H'∧V P r K l H' ⟨⟩) ⟨⟩:=V_eff (fun _ _=>rfl) rfl (fun _ _ _ _=>rfl) (by first | rfl | (simp only [effV]; rfl))
@[go_sem ↓] theorem V_mupdi {m:Nat} {x y z:X} {u:T ((⟨n,some d,none,h,.mupd m x y z,0⟩:Ins)::r,K,l,H)}:V P (⟨n,some d,none,h,.mupd m x y z,0⟩::r) K l H u=EE (mupdV H m (ev (fr l) x) (ev (fr l) y) (ev (fr l) z)) (fun v H'=>holdsOk h (fr l) H'∧V P r K ((d,v)::l) H' ⟨⟩) ⟨⟩:=V_effi (fun _ _=>rfl) rfl (fun _ _ _ _=>rfl) (by first | rfl | (simp only [effV]; rfl))
@[go_sem ↓] theorem V_del {m:Nat} {x y:X} {u:T ((⟨n,none,none,h,.del m x y,0⟩:Ins)::r,K,l,H)}:V P (⟨n,none,none,h,.del m x y,0⟩::r) K l H u=EE (delV H m (ev (fr l) x) (ev (fr l) y)) (fun _ H'=>holdsOk h (fr l) H'∧V P r K l H' ⟨⟩) ⟨⟩:=V_eff (fun _ _=>rfl) rfl (fun _ _ _ _=>rfl) (by first | rfl | (simp only [effV]; rfl))
@[go_sem ↓] theorem V_deli {m:Nat} {x y:X} {u:T ((⟨n,some d,none,h,.del m x y,0⟩:Ins)::r,K,l,H)}:V P (⟨n,some d,none,h,.del m x y,0⟩::r) K l H u=EE (delV H m (ev (fr l) x) (ev (fr l) y)) (fun v H'=>holdsOk h (fr l) H'∧V P r K ((d,v)::l) H' ⟨⟩) ⟨⟩:=V_effi (fun _ _=>rfl) rfl (fun _ _ _ _=>rfl) (by first | rfl | (simp only [effV]; rfl))
@[go_sem ↓] theorem V_est {x y z:X} {u:T ((⟨n,none,none,h,.est x y z,0⟩:Ins)::r,K,l,H)}:V P (⟨n,none,none,h,.est x y z,0⟩::r) K l H u=EE (estV H (ev (fr l) x) (ev (fr l) y) (ev (fr l) z)) (fun _ H'=>holdsOk h (fr l) H'∧V P r K l H' ⟨⟩) ⟨⟩:=V_eff (fun _ _=>rfl) rfl (fun _ _ _ _=>rfl) (by first | rfl | (simp only [effV]; rfl))
@[go_sem ↓] theorem V_esti {x y z:X} {u:T ((⟨n,some d,none,h,.est x y z,0⟩:Ins)::r,K,l,H)}:V P (⟨n,some d,none,h,.est x y z,0⟩::r) K l H u=EE (estV H (ev (fr l) x) (ev (fr l) y) (ev (fr l) z)) (fun v H'=>holdsOk h (fr l) H'∧V P r K ((d,v)::l) H' ⟨⟩) ⟨⟩:=V_effi (fun _ _=>rfl) rfl (fun _ _ _ _=>rfl) (by first | rfl | (simp only [effV]; rfl))
@[go_sem ↓] theorem V_clr {x:X} {u:T ((⟨n,none,none,h,.clr x,0⟩:Ins)::r,K,l,H)}:V P (⟨n,none,none,h,.clr x,0⟩::r) K l H u=EE (clrV H (ev (fr l) x)) (fun _ H'=>holdsOk h (fr l) H'∧V P r K l H' ⟨⟩) ⟨⟩:=V_eff (fun _ _=>rfl) rfl (fun _ _ _ _=>rfl) (by first | rfl | (simp only [effV]; rfl))
@[go_sem ↓] theorem V_clri {x:X} {u:T ((⟨n,some d,none,h,.clr x,0⟩:Ins)::r,K,l,H)}:V P (⟨n,some d,none,h,.clr x,0⟩::r) K l H u=EE (clrV H (ev (fr l) x)) (fun v H'=>holdsOk h (fr l) H'∧V P r K ((d,v)::l) H' ⟨⟩) ⟨⟩:=V_effi (fun _ _=>rfl) rfl (fun _ _ _ _=>rfl) (by first | rfl | (simp only [effV]; rfl))
@[go_sem ↓] theorem V_acas {x y z:X} {u:T ((⟨n,none,none,h,.acas x y z,0⟩:Ins)::r,K,l,H)}:V P (⟨n,none,none,h,.acas x y z,0⟩::r) K l H u=EE (acasV H (ev (fr l) x) (ev (fr l) y) (ev (fr l) z)) (fun _ H'=>holdsOk h (fr l) H'∧V P r K l H' ⟨⟩) ⟨⟩:=V_eff (fun _ _=>rfl) rfl (fun _ _ _ _=>rfl) (by first | rfl | (simp only [effV]; rfl))
@[go_sem ↓] theorem V_acasi {x y z:X} {u:T ((⟨n,some d,none,h,.acas x y z,0⟩:Ins)::r,K,l,H)}:V P (⟨n,some d,none,h,.acas x y z,0⟩::r) K l H u=EE (acasV H (ev (fr l) x) (ev (fr l) y) (ev (fr l) z)) (fun v H'=>holdsOk h (fr l) H'∧V P r K ((d,v)::l) H' ⟨⟩) ⟨⟩:=V_effi (fun _ _=>rfl) rfl (fun _ _ _ _=>rfl) (by first | rfl | (simp only [effV]; rfl))
@[go_sem ↓] theorem V_alc {q:Nat} {z:List AV} {u:T ((⟨n,some d,none,h,.alc q z,0⟩:Ins)::r,K,l,H)}:V P (⟨n,some d,none,h,.alc q z,0⟩::r) K l H u=EE (some (.ptr (H.nm q) 0,H.set (H.nm q) (.row z.length (cs z)))) (fun v H'=>H.nmOk q∧holdsOk h (fr l) H'∧V P r K ((d,v)::l) H' ⟨⟩) ⟨⟩:=V_new (fun _ _=>rfl) rfl (fun _ _ _ _=>rfl) (by first | rfl | (simp only [effV]; rfl))
@[go_sem ↓] theorem V_box {q:Nat} {x:X} {u:T ((⟨n,some d,none,h,.box q x,0⟩:Ins)::r,K,l,H)}:V P (⟨n,some d,none,h,.box q x,0⟩::r) K l H u=EE (boxV H (H.nm q) (ev (fr l) x)) (fun v H'=>H.nmOk q∧holdsOk h (fr l) H'∧V P r K ((d,v)::l) H' ⟨⟩) ⟨⟩:=V_new (fun _ _=>rfl) rfl (fun _ _ _ _=>rfl) (by first | rfl | (simp only [effV]; rfl))
@[go_sem ↓] theorem V_bsl {q:Nat} {z:List AV} {p:List (Nat × Nat × X)} {a b:Nat} {u:T ((⟨n,some d,none,h,.bsl q z p a b,0⟩:Ins)::r,K,l,H)}:V P (⟨n,some d,none,h,.bsl q z p a b,0⟩::r) K l H u=EE (bslV H (H.nm q) a b (fillP (fr l) z p)) (fun v H'=>H.nmOk q∧holdsOk h (fr l) H'∧V P r K ((d,v)::l) H' ⟨⟩) ⟨⟩:=V_new (fun _ _=>rfl) rfl (fun _ _ _ _=>rfl) (by first | rfl | (simp only [effV]; rfl))
@[go_sem ↓] theorem V_mkm {q a:Nat} {u:T ((⟨n,some d,none,h,.mkm q a,0⟩:Ins)::r,K,l,H)}:V P (⟨n,some d,none,h,.mkm q a,0⟩::r) K l H u=EE (some (.map (H.nm q),H.set (H.nm q) (.mp a fun _=>none))) (fun v H'=>H.nmOk q∧holdsOk h (fr l) H'∧V P r K ((d,v)::l) H' ⟨⟩) ⟨⟩:=V_new (fun _ _=>rfl) rfl (fun _ _ _ _=>rfl) (by first | rfl | (simp only [effV]; rfl))
@[go_sem ↓] theorem V_app {q a:Nat} {x y:X} {u:T ((⟨n,some d,none,h,.app q x y a,0⟩:Ins)::r,K,l,H)}:V P (⟨n,some d,none,h,.app q x y a,0⟩::r) K l H u=EE (appV H (H.nm q) a (ev (fr l) x) (ev (fr l) y)) (fun v H'=>H.nmOk q∧holdsOk h (fr l) H'∧V P r K ((d,v)::l) H' ⟨⟩) ⟨⟩:=V_new (fun _ _=>rfl) rfl (fun _ _ _ _=>rfl) (by first | rfl | (simp only [effV]; rfl))
def sel (L:List Nat) (l:List (Nat × AV)):List (Nat × AV):=L.map fun s=>(s,lkp l s)
@[go_sem] theorem sel_nil:sel [] l=[]:=rfl
@[go_sem] theorem sel_cons {s:Nat} {L:List Nat}:sel (s::L) l=(s,lkp l s)::sel L l:=rfl
def RK (L:List Nat) (c:Nat) (Q:Qs):Fr→AH→Prop:=fun t' H'=>Q.nrm (rs L t') (bmp c H')
@[go_sem ↓] theorem RK_app {L:List Nat} {c:Nat}:RK L c Q (fr l) H=EL (sel L l) (fun l'=>EH (bmp c H) (fun H'=>Q.nrm (fr l') H') ⟨⟩) ⟨⟩:=rfl
@[go_sem ↓] theorem W_of {c:AC}:vc P c Q (fr l) H=W P c Q l H ⟨⟩:=rfl
@[go_sem ↓] theorem C_reg {L:List Nat} {c:Nat} {u:T (AC.reg L c r,Q,l,H)}:W P (.reg L c r) Q l H u=V P r (RK L c Q) l H ⟨⟩:=rfl
@[go_sem ↓] theorem C_reg2 {L:List Nat} {c x y:Nat} {u:T (AC.reg2 L c x y r,Q,l,H)}:W P (.reg2 L c x y r) Q l H u=(V P r (RK L c Q) l H ⟨⟩∧V P (mvx x y r) (RK L c Q) l H ⟨⟩):=rfl
@[go_sem ↓] theorem C_skip {u:T (AC.skip,Q,l,H)}:W P .skip Q l H u=Q.nrm (fr l) H:=rfl
@[go_sem ↓] theorem C_ret {u:T (AC.ret,Q,l,H)}:W P .ret Q l H u=Q.ret (fr l) H:=rfl
@[go_sem ↓] theorem C_exit {id:Nat} {u:T (AC.exit id,Q,l,H)}:W P (.exit id) Q l H u=Q.ext id (fr l) H:=rfl
@[go_sem ↓] theorem C_seq {a b:AC} {u:T (AC.seq a b,Q,l,H)}:W P (.seq a b) Q l H u=W P a ⟨fun t' H'=>vc P b Q t' H',Q.ext,Q.ret⟩ l H ⟨⟩:=rfl
@[go_sem ↓] theorem C_cond {x:X} {a b:AC} {u:T (AC.cond x a b,Q,l,H)}:W P (.cond x a b) Q l H u=EB (ev (fr l) x) (W P a Q l H ⟨⟩) (W P b Q l H ⟨⟩) ⟨⟩:=by
 simp only [W,vc,EB,EI]
 all_goals rfl
@[go_sem ↓] theorem C_blk {id:Nat} {a:AC} {u:T (AC.blk id a,Q,l,H)}:W P (.blk id a) Q l H u=W P a ⟨Q.nrm,fun i t' H'=>if i=id then Q.nrm t' H' else Q.ext i t' H',Q.ret⟩ l H ⟨⟩:=rfl
theorem C_loop {a:AC} {u:T (AC.loop a,Q,l,H)} (I:Nat→List (Nat × AV)→AH→Prop) (n₀:Nat) (h0:I n₀ l H)
  (hr : ∀ n l' H',I n l' H'→H.k≤H'.k→Clean H' → ∃ s,W P a ⟨fun t'' H'' => ∃ n' l'',t''=fr l''∧n'<n∧I n' l'' H'',Q.ext,Q.ret⟩ l' { H' with sup:=s } ⟨⟩):W P (.loop a) Q l H u:=by
 refine ⟨fun n t H => ∃ l,t=fr l∧I n l H,n₀,⟨l,rfl,h0⟩,?_⟩
 rintro n t' H' ⟨l',rfl,hI⟩ hk hcl
 obtain ⟨s,hs⟩:=hr n l' H' hI hk hcl
 refine ⟨s,?_⟩
 unfold W at hs
 have:(fun (t'':Fr) (H'':AH) => ∃ n' l'',t''=fr l''∧n'<n∧I n' l'' H'')=fun (t'':Fr) (H'':AH) => ∃ n',n'<n ∧ ∃ l,t''=fr l∧I n' l H'':=by
  funext t'' H''
  apply propext
  constructor
  ·rintro ⟨n',l'',h1,h2,h3⟩; exact ⟨n',h2,l'',h1,h3⟩
  ·rintro ⟨n',h2,l'',h1,h3⟩; exact ⟨n',l'',h1,h2,h3⟩
 rw [this] at hs
 exact hs
def RN (P:Program) (b:AC) (Q:Qs):Fr→AH→Prop:=fun t H=>Clean H → ∃ s,vc P b Q t { H with sup:=s }
theorem RN_i {b:AC} (s:List Nm) (h:Clean H→W P b Q l ⟨H.f,H.k,s⟩ ⟨⟩):RN P b Q (fr l) H:=fun hcl=>⟨s,h hcl⟩
theorem C_rf {x:X} {p q:Nat} {a b:AC} {u:T (AC.rf x p q a b,Q,l,H)} {g:FuncId} {caps:List AV} (hx:ev (fr l) x=.fn g caps) (es:List (Int × Int)) (S:Nm→Prop) (hit:Iter P g caps S es H) (hcb:Callable P g)
  (I:Nat→AH→Prop) (h0:I 0 H) (hS : ∀ i H',I i H'→H.k≤H'.k→Clean H' → ∀ n,S n→H'.f n=H.f n)
  (hr : ∀ i x y H',es[i]? = some (x,y)→I i H'→H.k≤H'.k→Clean H' → ∃ s,W P a ⟨RN P b ⟨fun _ H2=>I (i+1) H2,fun id _ H2=>Q.ext id (fr l) H2,fun _ H2=>Q.ret (fr l) H2⟩,fun _ _ _=>False,fun _ _=>False⟩
   ((q,.int .i64 y)::(p,.int .i64 x)::l) { H' with sup:=s } ⟨⟩)
  (he : ∀ H',I es.length H'→Q.nrm (fr l) H'):W P (.rf x p q a b) Q l H u:=by
 show vc P (.rf x p q a b) Q (fr l) H
 simp only [vc,hx]
 refine ⟨es,S,hit,hcb,I,h0,hS,fun i x y H' h1 h2 h3 h4=>?_,he⟩
 rw [put_fr,put_fr]
 exact hr i x y H' h1 h2 h3 h4
@[go_sem] theorem EV_def {v:AV} {f:AV→Prop} {u:T f}:EV v f u=f v:=rfl
@[go_sem] theorem EL_def {v:List (Nat × AV)} {f:List (Nat × AV)→Prop} {u:T f}:EL v f u=f v:=rfl
@[go_sem] theorem EH_def {f:AH→Prop} {u:T f}:EH H f u=f H:=rfl
@[go_sem] theorem EA_def {v:List AV} {f:List AV→Prop} {u:T f}:EA v f u=f v:=rfl
@[go_sem] theorem EO_some {v:AV} {f:AV→Prop} {u:T f}:EO (some v) f u=f v:=rfl
@[go_sem] theorem EO_none {f:AV→Prop} {u:T f}:EO none f u=False:=rfl
@[go_sem] theorem EO_ite {c:Prop} [Decidable c] {v:Option AV} {f:AV→Prop} {u:T f}:EO (if c then v else none) f u=(c∧EO v f u):=by
 by_cases h:c <;> simp [h,EO]
@[go_sem] theorem EE_some {v:AV} {f:AV→AH→Prop} {u:T f}:EE (some (v,H)) f u=f v H:=rfl
@[go_sem] theorem EE_none {f:AV→AH→Prop} {u:T f}:EE none f u=False:=rfl
@[go_sem] theorem EE_ite {c:Prop} [Decidable c] {v:Option (AV × AH)} {f:AV→AH→Prop} {u:T f}:EE (if c then v else none) f u=(c∧EE v f u):=by
 by_cases h:c <;> simp [h,EE]
@[go_sem] theorem EG_bool {b:Bool} {x y z:Prop} {u:T (x,y,z)}:EG (.bool b) x y z u=EI b x y ⟨⟩:=rfl
@[go_sem] theorem EG_tup {l:List AV} {x y z:Prop} {u:T (x,y,z)}:EG (.tup l) x y z u=z:=rfl
@[go_sem] theorem EB_bool {b:Bool} {x y:Prop} {u:T (x,y)}:EB (.bool b) x y u=EI b x y ⟨⟩:=rfl
@[go_sem] theorem EI_true {x y:Prop} {u:T (x,y)}:EI true x y u=x:=by simp [EI]
@[go_sem] theorem EI_false {x y:Prop} {u:T (x,y)}:EI false x y u=y:=by simp [EI]
theorem EI_i {b:Bool} {x y:Prop} {u:T (x,y)} (h1:b=true→x) (h2:b=false→y):EI b x y u:=⟨h1,h2⟩
@[go_sem] theorem EF_fn {g:FuncId} {c:List AV} {f:FuncId→List AV→Prop} {u:T f}:EF (.fn g c) f u=f g c:=rfl
theorem fr_shadow {s:Nat} {v:AV} (h:lkp l s=v):fr ((s,v)::l)=fr l:=by
 funext x
 simp only [fr,lkp]
 cases hx:s==x with
 | true =>
  have:s=x:=by simpa using hx
  subst this; simp [h]
 | false=>rfl
@[go_sem ↓] theorem V_gt {s m:Nat} {a:AI} {u:T ((⟨n,some d,some (s,true),h,a,m⟩:Ins)::r,K,l,H)}:V P (⟨n,some d,some (s,true),h,a,m⟩::r) K l H u =
  EG (lkp l s) (V P (⟨n,some d,none,h,a,m⟩::r) K ((s,.bool true)::l) H ⟨⟩) (EH (bmp m H) (fun H'=>V P r K ((d,und)::(s,.bool false)::l) H' ⟨⟩) ⟨⟩) (EH (bmp m H) (fun H'=>V P r K ((d,und)::l) H' ⟨⟩) ⟨⟩) ⟨⟩:=by
 simp only [V,vcr,vci,gd]
 show (match gv true (lkp l s) with | some true=>_ | some false=>_ | none=>False)=_
 cases hs:lkp l s <;> simp only [gv,AV.isTup,if_false,if_true,Bool.false_eq_true,EG,EI]
 case tup=>rw [put_fr]; rfl
 rename_i b
 cases b
 ·simp only [Bool.false_eq_true,false_imp_iff,forall_const,true_and]
  rw [put_fr]
  rw [show fr ((d,und)::(s,AV.bool false)::l)=fr ((d,und)::l) by
   funext x; simp only [fr,lkp]; cases d==x <;> simp
   exact congrFun (fr_shadow hs) x]
  rfl
 ·simp only [forall_const,Bool.true_eq_false,false_imp_iff,and_true]
  rw [fr_shadow hs]; rfl
@[go_sem ↓] theorem V_gf {s m:Nat} {a:AI} {u:T ((⟨n,some d,some (s,false),h,a,m⟩:Ins)::r,K,l,H)}:V P (⟨n,some d,some (s,false),h,a,m⟩::r) K l H u =
  EG (lkp l s) (EH (bmp m H) (fun H'=>V P r K ((d,und)::(s,.bool true)::l) H' ⟨⟩) ⟨⟩) (V P (⟨n,some d,none,h,a,m⟩::r) K ((s,.bool false)::l) H ⟨⟩) (EH (bmp m H) (fun H'=>V P r K ((d,und)::l) H' ⟨⟩) ⟨⟩) ⟨⟩:=by
 simp only [V,vcr,vci,gd]
 show (match gv false (lkp l s) with | some true=>_ | some false=>_ | none=>False)=_
 cases hs:lkp l s <;> simp only [gv,AV.isTup,if_false,if_true,Bool.false_eq_true,EG,EI]
 case tup=>rw [put_fr]; rfl
 rename_i b
 cases b
 ·simp only [Bool.false_eq_true,false_imp_iff,forall_const,true_and]
  rw [fr_shadow hs]; rfl
 ·simp only [forall_const,Bool.true_eq_false,false_imp_iff,and_true]
  rw [put_fr]
  rw [show fr ((d,und)::(s,AV.bool true)::l)=fr ((d,und)::l) by
   funext x; simp only [fr,lkp]; cases d==x <;> simp
   exact congrFun (fr_shadow hs) x]
  rfl
@[go_sem ↓] theorem V_calli {m:Nat} {g:FuncId} {as:List X} {u:T ((⟨n,some d,none,h,.call (.c (.fn g [])) as,m⟩:Ins)::r,K,l,H)}:V P (⟨n,some d,none,h,.call (.c (.fn g [])) as,m⟩::r) K l H u =
  EA (evs (fr l) as) (fun vs=>EH (bmp m H) (fun H₁=>CA P g vs H₁ (fun v H'=>holdsOk h (fr l) H'∧V P r K ((d,v)::l) H' ⟨⟩) ⟨⟩) ⟨⟩) ⟨⟩:=by
 simp only [V,CA,vcr,vci,gd,vca,Out,ev,List.append_nil,EA,EH,forall_const,put_fr]
@[go_sem ↓] theorem V_callj {m:Nat} {g:FuncId} {as:List X} {u:T ((⟨n,none,none,h,.call (.c (.fn g [])) as,m⟩:Ins)::r,K,l,H)}:V P (⟨n,none,none,h,.call (.c (.fn g [])) as,m⟩::r) K l H u =
  EA (evs (fr l) as) (fun vs=>EH (bmp m H) (fun H₁=>CA P g vs H₁ (fun _ H'=>holdsOk h (fr l) H'∧V P r K l H' ⟨⟩) ⟨⟩) ⟨⟩) ⟨⟩:=by
 simp only [V,CA,vcr,vci,gd,vca,Out,ev,List.append_nil,EA,EH,forall_const,put]
@[go_sem ↓] theorem V_callv {m:Nat} {s:Nat} {as:List X} {u:T ((⟨n,some d,none,h,.call (.s s) as,m⟩:Ins)::r,K,l,H)}:V P (⟨n,some d,none,h,.call (.s s) as,m⟩::r) K l H u =
  EF (lkp l s) (fun g caps=>EA (evs (fr l) as++caps) (fun vs=>EH (bmp m H) (fun H₁=>CA P g vs H₁ (fun v H'=>holdsOk h (fr l) H'∧V P r K ((d,v)::l) H' ⟨⟩) ⟨⟩) ⟨⟩) ⟨⟩) ⟨⟩:=by
 simp only [V,CA,vcr,vci,gd,vca,Out,EA,EH,EF,forall_const,put_fr]
 rfl
def ERng (H:AH) (q:Nat) (v:AV) (f:AV→AH→Prop) (_:T (H,f)):Prop:=H.nmOk q∧match v with
 | .map n=>match H.f n with
  | some (.mp r m) => ∀ c,f (.ptr (H.nm q) 0) ((H.set n (.mpi r m (H.nm q) [] c)).set (H.nm q) (.itr n))
  | _=>False
 | .nilm=>f (.ptr (H.nm q) 0) (H.set (H.nm q) .itr0)
 | _=>False
def ENxt (H:AH) (v:AV) (f:AV→AH→Prop) (_:T (H,f)):Prop:=match v with
 | .ptr it 0=>match H.f it with
  | some .itr0=>f (.tup [.bool false]) H
  | some (.itr n)=>match H.f n with
   | some (.mpi r m it' seen c)=>it=it' ∧
     (∀ key v,m key=some v→key.length=r→key ∉ seen→0<c→f (.tup [.bool true,.any,.any]) (H.set n (.mpi r m it (key::seen) (c-1)))) ∧
     ((∀ key v,m key=some v→key∈seen)→f (.tup [.bool false]) (H.set n (.mp r m)))
   | _=>False
  | _=>False
 | _=>False
def EMent (H:AH) (r:Nat) (v k zero:AV) (f:AV→AH→Prop) (_:T (H,f)):Prop:=match v,keyOf r k with
 | .map n,some key=>match H.f n with
  | some (.mp r' mp)=>r'=r ∧ ∀ b,f (.tup [(mp key).getD zero,.int .i64 b]) (H.set n (.mpb r (mset mp key (some ((mp key).getD zero))) key b))
  | _=>False
 | _,_=>False
@[go_sem ↓] theorem V_rng {q s:Nat} {u:T ((⟨n,some d,none,h,.rng q (.s s),0⟩:Ins)::r,K,l,H)}:V P (⟨n,some d,none,h,.rng q (.s s),0⟩::r) K l H u=ERng H q (lkp l s) (fun v H'=>holdsOk h (fr l) H'∧V P r K ((d,v)::l) H' ⟨⟩) ⟨⟩:=by
 simp only [V,vcr,vci,gd,vca,Out,ERng,forall_const,put_fr]
 rfl
@[go_sem ↓] theorem V_nxt {s:Nat} {u:T ((⟨n,some d,none,h,.nxt (.s s),0⟩:Ins)::r,K,l,H)}:V P (⟨n,some d,none,h,.nxt (.s s),0⟩::r) K l H u=ENxt H (lkp l s) (fun v H'=>holdsOk h (fr l) H'∧V P r K ((d,v)::l) H' ⟨⟩) ⟨⟩:=by
 simp only [V,vcr,vci,gd,vca,Out,ENxt,forall_const,put_fr]
 rfl
@[go_sem ↓] theorem V_ment {q:Nat} {x y:X} {z:AV} {u:T ((⟨n,some d,none,h,.ment q x y z,0⟩:Ins)::r,K,l,H)}:V P (⟨n,some d,none,h,.ment q x y z,0⟩::r) K l H u=EMent H q (ev (fr l) x) (ev (fr l) y) z (fun v H'=>holdsOk h (fr l) H'∧V P r K ((d,v)::l) H' ⟨⟩) ⟨⟩:=by
 simp only [V,vcr,vci,gd,vca,Out,EMent,forall_const,put_fr]
 rfl
def celV (H:AH):AV→Option AV
 | .ptr n off=>H.rd n off
 | _=>none
def celsV (H:AH) (k:Nat):AV→Option AV
 | .ptr n off=>(H.rdN n off k).map AV.agg
 | _=>none
def ER (K:AV→AH→Prop) (l:List (Nat × AV)) (H:AH):List Rs→List AV→Prop
 | [],acc=>K (one acc) H
 | .tmp s::r,acc=>ER K l H r (acc++[lkp l s])
 | .cell s::r,acc=>match celV H (lkp l s) with
  | some v=>ER K l H r (acc++[v])
  | none=>False
 | .cells s k::r,acc=>match celsV H k (lkp l s) with
  | some v=>ER K l H r (acc++[v])
  | none=>False
theorem ER_eq {K:AV→AH→Prop} : ∀ (r:List Rs) (acc:List AV),ER K l H r acc=match resL (fr l) H r with | some vs=>K (one (acc++vs)) H | none=>False
 | [],acc=>by simp [ER,resL]
 | .tmp s::r,acc=>by
  simp only [ER,resL,resA,ER_eq r]
  cases resL (fr l) H r <;> simp [fr]
 | .cell s::r,acc=>by
  have e:fr l s=lkp l s:=rfl
  simp only [ER,resL,resA,celV,e]
  cases hs:lkp l s <;> simp only
  rename_i m off
  cases H.rd m off <;> simp only [ER_eq r]
  cases resL (fr l) H r <;> simp
 | .cells s k::r,acc=>by
  have e:fr l s=lkp l s:=rfl
  simp only [ER,resL,resA,celsV,e]
  cases hs:lkp l s <;> simp only
  rename_i m off
  cases H.rdN m off k <;> simp only [ER_eq r,Option.map_none,Option.map_some]
  cases resL (fr l) H r <;> simp
def R (K:AV→AH→Prop) (l:List (Nat × AV)) (H:AH) (r:List Rs) (acc:List AV) (_:T (K,l,H)):Prop:=ER K l H r acc
@[go_sem ↓] theorem endQ_eq {K:AV→AH→Prop} {r:List Rs}:endQ r K (fr l) H=R K l H r [] ⟨⟩:=by
 unfold R
 rw [ER_eq]; rfl
@[go_sem ↓] theorem R_nil {K:AV→AH→Prop} {acc:List AV} {u:T (K,l,H)}:R K l H [] acc u=K (one acc) H:=rfl
@[go_sem ↓] theorem R_tmp {K:AV→AH→Prop} {acc:List AV} {s:Nat} {r:List Rs} {u:T (K,l,H)}:R K l H (.tmp s::r) acc u=EV (lkp l s) (fun v=>R K l H r (acc++[v]) ⟨⟩) ⟨⟩:=rfl
@[go_sem ↓] theorem R_cell {K:AV→AH→Prop} {acc:List AV} {s:Nat} {r:List Rs} {u:T (K,l,H)}:R K l H (.cell s::r) acc u=EO (celV H (lkp l s)) (fun v=>R K l H r (acc++[v]) ⟨⟩) ⟨⟩:=rfl
@[go_sem ↓] theorem R_cells {K:AV→AH→Prop} {acc:List AV} {s k:Nat} {r:List Rs} {u:T (K,l,H)}:R K l H (.cells s k::r) acc u=EO (celsV H k (lkp l s)) (fun v=>R K l H r (acc++[v]) ⟨⟩) ⟨⟩:=rfl
@[go_sem] theorem one_1 {v:AV}:one [v]=v:=rfl
@[go_sem] theorem one_0:one []=.tup []:=rfl
@[go_sem] theorem one_2 {u v:AV} {r:List AV}:one (u::v::r)=.tup (u::v::r):=rfl
def rdO (o:Option AO) (off:Nat):Option AV:=match o with
 | some (.row c g)=>if off<c then some (g off) else none
 | some (.fix c g _)=>if off<c then some (g off) else none
 | _=>none
@[go_sem] theorem rd_O {n:Nm} {off:Nat}:H.rd n off=rdO (H.f n) off:=rfl
@[go_sem] theorem rdO_row {c off:Nat} {g:Nat→AV}:rdO (some (.row c g)) off=if off<c then some (g off) else none:=rfl
@[go_sem] theorem rdO_fix {c off:Nat} {g:Nat→AV} {o:Obj}:rdO (some (.fix c g o)) off=if off<c then some (g off) else none:=rfl
def rdNO (o:Option AO) (off k:Nat):Option (List AV):=match o with
 | some (.row c g)=>if off+k≤c then some ((List.range k).map fun j=>g (off+j)) else none
 | some (.fix c g _)=>if off+k≤c then some ((List.range k).map fun j=>g (off+j)) else none
 | _=>none
@[go_sem] theorem rdN_O {n:Nm} {off k:Nat}:H.rdN n off k=rdNO (H.f n) off k:=rfl
@[go_sem] theorem rdNO_row {c off k:Nat} {g:Nat→AV}:rdNO (some (.row c g)) off k=if off+k≤c then some ((List.range k).map fun j=>g (off+j)) else none:=rfl
@[go_sem] theorem rdNO_fix {c off k:Nat} {g:Nat→AV} {o:Obj}:rdNO (some (.fix c g o)) off k=if off+k≤c then some ((List.range k).map fun j=>g (off+j)) else none:=rfl
def mpO (r:Nat) (o:Option AO):Option (List Int→Option AV):=match o with
 | some (.mp r' m)=>if r'=r then some m else none
 | some (.mpi r' m _ _ _)=>if r'=r then some m else none
 | _=>none
@[go_sem] theorem mpAt_O {r:Nat} {n:Nm}:H.mpAt r n=mpO r (H.f n):=rfl
@[go_sem] theorem mpO_mp {r r':Nat} {m:List Int→Option AV}:mpO r (some (.mp r' m))=if r'=r then some m else none:=rfl
@[go_sem] theorem mpO_mpi {r r' c:Nat} {m:List Int→Option AV} {it:Nm} {s:List (List Int)}:mpO r (some (.mpi r' m it s c))=if r'=r then some m else none:=rfl
@[go_sem] theorem set_fs {n:Nm} {o:AO}:(H.set n o).f n=some o:=by simp [AH.set]
@[go_sem] theorem set_fn {n m:Nm} {o:AO} (h:m≠n):(H.set n o).f m=H.f m:=by simp [AH.set,h]
@[go_sem] theorem set_k {n:Nm} {o:AO}:(H.set n o).k=H.k:=rfl
@[go_sem] theorem set_sup {n:Nm} {o:AO}:(H.set n o).sup=H.sup:=rfl
@[go_sem] theorem bmp_f {c:Nat}:(bmp c H).f=H.f:=by unfold bmp; split <;> rfl
@[go_sem] theorem bmp_k {c:Nat}:(bmp (c+1) H).k=H.k+1:=rfl
@[go_sem] theorem bmp_sup {c:Nat}:(bmp (c+1) H).sup=H.sup.drop (c+1):=rfl
@[go_sem] theorem bmp_0:bmp 0 H=H:=rfl
@[go_sem] theorem ev_s {n:Nat}:ev (fr l) (.s n)=lkp l n:=rfl
@[go_sem] theorem ev_c {v:AV}:ev (fr l) (.c v)=v:=rfl
@[go_sem] theorem lkp_s {n:Nat} {v:AV}:lkp ((n,v)::l) n=v:=by simp [lkp]
@[go_sem] theorem lkp_n {n m:Nat} {v:AV} (h:m≠n):lkp ((m,v)::l) n=lkp l n:=by
 have:(m==n)=false:=by simpa using h
 simp [lkp,this]
@[go_sem] theorem evs_nil:evs (fr l) []=[]:=rfl
@[go_sem] theorem evs_cons {x:X} {xs:List X}:evs (fr l) (x::xs)=ev (fr l) x::evs (fr l) xs:=rfl
@[go_sem] theorem upd_s {g:Nat→AV} {i:Nat} {v:AV}:upd g i v i=v:=by simp [upd]
@[go_sem] theorem upd_n {g:Nat→AV} {i j:Nat} {v:AV} (h:j≠i):upd g i v j=g j:=by
 have:(j==i)=false:=by simpa using h
 simp [upd,this]
end
attribute [go_sem] pickV ldV ldnV chkV eqV notV negV convV faV ixV ixaV idxV idxnV fldV fldnV extV bldV lookV lookM lenV slenV mnV mxV strixV add64V aloadV stV stO stnV stnO boxV bslV mupdV mupdO estV estO delV delO appV appL appO appd acasV clrV celV celsV
theorem bin_int {o:BinOp} {k:IntKind} {a b:Int}:binop o (.int k a) (.int k b)=binInt o k a b:=by simp [binop]
theorem bin_shl {k k':IntKind} {a b:Int}:binop .shl (.int k a) (.int k' b)=shft .shl k a b:=by
 simp only [binop]; split <;> rfl
theorem bin_shr {k k':IntKind} {a b:Int}:binop .shr (.int k a) (.int k' b)=shft .shr k a b:=by
 simp only [binop]; split <;> rfl
theorem bin_seq {a b:ByteArray}:binop .eql (.str a) (.str b)=some (.bool (a.toList==b.toList)):=rfl
theorem bin_sne {a b:ByteArray}:binop .neq (.str a) (.str b)=some (.bool !(a.toList==b.toList)):=rfl
theorem bin_sadd {a b:ByteArray}:binop .add (.str a) (.str b)=if ((a.size+b.size:Nat):Int)>IntKind.i64.max then none else some (.str (a++b)):=rfl
attribute [go_sem] bin_int bin_shl bin_shr bin_seq bin_sne bin_sadd binInt arith shft eqv AV.scalar AV.cells if_true if_false ne_eq not_false_eq_true Nat.zero_add Nat.add_zero true_and and_true List.append_nil List.nil_append List.cons_append Option.map_some Option.map_none frA fillP slcV bnd keyOf foldI
end Go.Ab

namespace Go.Ab
structure Nums where
 law18_CoreEnds:Nat
 law18_head:Nat
 core_Boxes:Nat
 core_Do:Nat
 core_Busy:Nat
 core_New:Nat
 core_Free:Nat
 core_Ends:Nat
 core_Now:Nat
 core_ids:Nat
 event_Event_Right:Nat
 core_act:Nat
 tally_Add:Nat
 quota_Busy:Nat
 quota_New:Nat
 host_New:Nat
 timer_New:Nat
 host_Free:Nat
 timer_At:Nat
 slices_Sorted:Nat
 Keys_box:Nat
 event_Event_parts:Nat
 core_tick:Nat
 core_account:Nat
 core_function:Nat
 host_Add:Nat
 core_keepAll:Nat
 core_drain:Nat
 core_fail:Nat
 core_call:Nat
 core_booted:Nat
 core_broke:Nat
 core_done:Nat
 sync_atomic_Int64_Load:Nat
 num_Add:Nat
 sync_atomic_Int64_CompareAndSwap:Nat
 quota_known:Nat
 theap_New:Nat
 timer_less:Nat
 host_there:Nat
 theap_Get:Nat
 core_window:Nat
 bucket_Tokens:Nat
 tally_Load:Nat
 slices_Collect:Nat
 slices_Sort:Nat
 Keys_box_1:Nat
 bucket_Tick:Nat
 timer_Next:Nat
 core_kill:Nat
 core_ahead:Nat
 quota_SetAccount:Nat
 bucket_Set:Nat
 bucket_New:Nat
 quota_SetFunc:Nat
 histo_New:Nat
 ring_New:Nat
 core_keep:Nat
 Keys_fn:Nat
 host_Drain:Nat
 core_where:Nat
 core_drain_1:Nat
 box_Runs:Nat
 host_There:Nat
 core_fail_1:Nat
 core_gone:Nat
 host_Fail:Nat
 quota_Ask:Nat
 core_free:Nat
 core_begin:Nat
 core_room:Nat
 bucket_Take:Nat
 core_start:Nat
 box_Booted:Nat
 box_Idle:Nat
 core_idle:Nat
 box_Done:Nat
 quota_End:Nat
 host_Up:Nat
 timer_Set:Nat
 cmp_Or:Nat
 cmp_Compare_int64:Nat
 cmp_Compare:Nat
 policy_Of:Nat
 slices_AppendSeq:Nat
 slices_pdqsortOrdered:Nat
 math_bits_Len:Nat
 theap_Min:Nat
 theap_Drop:Nat
 core_ahead_1:Nat
 host_Fit:Nat
 quota_sums:Nat
 bucket_bound:Nat
 slices_Backward:Nat
 core_pinned:Nat
 core_spare:Nat
 core_take:Nat
 Keys_fn_1:Nat
 host_sweep:Nat
 slices_DeleteFunc:Nat
 core_where_1:Nat
 box_Kill:Nat
 host_Give:Nat
 core_free_1:Nat
 histo_Add:Nat
 ring_Push:Nat
 timer_Drop:Nat
 quota_Begin:Nat
 box_Call:Nat
 core_room_1:Nat
 core_cache:Nat
 warm_Evict:Nat
 host_Take:Nat
 box_New:Nat
 warm_Set:Nat
 theap_Set:Nat
 cmp_isNaN_int64:Nat
 cmp_isNaN:Nat
 histo_In:Nat
 histo_Over:Nat
 policy_fixed:Nat
 policy_ahead:Nat
 cast_Next:Nat
 ring_List:Nat
 histo_Spread:Nat
 histo_Cut:Nat
 num_Frac:Nat
 num_FracUp:Nat
 slices_insertionSortOrdered:Nat
 slices_heapSortOrdered:Nat
 slices_breakPatternsOrdered:Nat
 slices_choosePivotOrdered:Nat
 slices_reverseRangeOrdered:Nat
 slices_partialInsertionSortOrdered:Nat
 cmp_Less:Nat
 slices_partitionEqualOrdered:Nat
 slices_partitionOrdered:Nat
 math_bits_Len32:Nat
 math_bits_Len64:Nat
 theap_swap:Nat
 theap_fix:Nat
 slices_Backward_1:Nat
 core_pinned_1:Nat
 core_spare_1:Nat
 warm_Drop:Nat
 slices_IndexFunc:Nat
 histo_halve:Nat
 warm_New:Nat
 wheap_Min:Nat
 wheap_Drop:Nat
 ratio_Ratio_Floor:Nat
 ratio_Above:Nat
 wheap_Set:Nat
 num_Clamp:Nat
 ring_Len:Nat
 num_part:Nat
 slices_siftDownOrdered:Nat
 slices_nextPowerOfTwo:Nat
 slices_xorshift_Next:Nat
 slices_medianAdjacentOrdered:Nat
 slices_medianOrdered:Nat
 theap_up:Nat
 theap_down:Nat
 wheap_New:Nat
 warm_less:Nat
 wheap_swap:Nat
 wheap_fix:Nat
 math_bits_Mul64:Nat
 math_bits_Div64:Nat
 num_signed:Nat
 slices_order2Ordered:Nat
 ratio_Ratio_Compare:Nat
 wheap_up:Nat
 wheap_down:Nat
 math_bits_LeadingZeros64:Nat
 cmp_Compare_uint64:Nat
 cmp_isNaN_uint64:Nat
end Go.Ab

