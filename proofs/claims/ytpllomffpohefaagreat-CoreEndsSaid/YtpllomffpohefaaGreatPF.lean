/- Part 6 of the proof: what the program's functions do, shown of them one by one, over memory by names. -/
import Derived.Test.YtpllomffpohefaaGreatPE
import Derived.RangeFuncBox
import Derived.RangeFuncLeaves
import Derived.Shelf.Abstract
import Derived.WalkKit
import Derived.OwnWalkIn
import Derived.TacticsInMore
import Derived.LoopNIn
import Derived.LoopIn
import Derived.Test.YtpllomffpohefaaGreatProg
import Derived.Shelf.SlIterI.Nil
import Derived.Shelf.SortM.Plain
import Derived.Shelf.SortM.SortNone
import Derived.Ground.GgzProg
import Derived.Ground.SlgmProg
set_option linter.unusedVariables false
set_option linter.unusedSimpArgs false
namespace Gh
open CS
section
variable {s : CS}
def bootB (s:CS) (b:Box):Box:=if b.bound then { b with st:=2,bound:=false,since:=s.now } else { b with st:=1,since:=s.now }
def bootStop (s:CS) (b:Box):Int:=match s.ahead b.id with
 | some t=>t
 | none=>s.now+(s.win b.fn).stop
def btS (s:CS) (b:Box):CS:={ s.setBox (bootB s b) with ahead:=ups s.ahead b.id none }
theorem booted_eq {id:Int}:s.booted id=match s.find id with
 | none=>(s,2)
 | some b=>if b.st≠0 then (s,3) else (if (bootB s b).idle && !(bootB s b).pinned then (btS s b).idle (bootB s b) (bootStop s b) else btS s b,0):=by
 unfold CS.booted
 cases hf:s.find id with
 | none=>rfl
 | some b =>
  obtain ⟨_,rfl⟩:=find_some hf
  rfl
theorem bootB_same {b:Box}:(bootB s b).id=b.id∧(bootB s b).fn=b.fn∧(bootB s b).host=b.host∧(bootB s b).mem=b.mem∧(bootB s b).pinned=b.pinned:=by
 unfold bootB
 split <;> exact ⟨rfl,rfl,rfl,rfl,rfl⟩
theorem bootB_runs {b:Box} (h:b.st=0):(bootB s b).runs=b.runs:=by
 unfold bootB Box.runs
 by_cases hb:b.bound=true
 ·simp [hb,h]
 ·have hb:b.bound=false:=by simpa using hb
  simp [hb,h]
theorem bootB_st {b:Box}:0≤(bootB s b).st∧(bootB s b).st≤2:=by
 unfold bootB
 split <;> exact ⟨by simp,by simp⟩
theorem bootB_since {b:Box}:(bootB s b).since=s.now:=by
 unfold bootB
 split <;> rfl
theorem Ok.bootS (k:Ok s) {b:Box} (hb:b∈s.boxes) (h0:b.st=0):WF (btS s b)∧Tidy (btS s b) (fun i=>i=b.id)∧OB (btS s b)∧bootB s b∈(btS s b).boxes:=by
 obtain ⟨e1,e2,e3,e4,e5⟩:=bootB_same (s:=s) (b:=b)
 have hnw:=k.w.now
 have w1:WF (s.setBox (bootB s b)):=k.w.setBox hb e1 e2 e3 e4 bootB_st (by rw [bootB_since]; exact ⟨hnw.1,Int.le_refl _⟩)
 have t1:=k.t.setBox k.w hb e1 e3 e4 e2 (bootB_runs h0)
 refine ⟨{ w1 with a:=?_ },?_,k.o.setBox,setBox_self k.w hb e1⟩
 ·intro id t ht
  have ht:ups s.ahead b.id none id=some t:=ht
  unfold ups at ht
  split at ht
  ·cases ht
  ·exact k.w.a id t ht
 ·have t2:Tidy (s.setBox (bootB s b)) (fun i=>i=b.id):=t1.mono fun i h=>h.elim False.elim fun h=>by rw [h,e1]
  exact ⟨t2.w,t2.e,t2.h,t2.u,t2.q⟩
theorem WF.stopB (w:WF s) (b:Box):bootStop s b≤topT:=by
 unfold bootStop
 split
 ·rename_i t ht; exact (w.a _ t ht).2
 ·exact w.stop b.fn
theorem Ok.booted (k:Ok s) (id:Int):Ok (s.booted id).1:=by
 rw [booted_eq]
 cases hf:s.find id with
 | none=>exact k
 | some b =>
  obtain ⟨hb,rfl⟩:=find_some hf
  simp only
  split
  ·exact k
  ·rename_i h0
   have h0:b.st=0:=by simpa using h0
   obtain ⟨w1,t1,o1,hm⟩:=k.bootS hb h0
   obtain ⟨e1,e2,e3,e4,e5⟩:=bootB_same (s:=s) (b:=b)
   simp only
   split
   ·rename_i hi
    simp only [Bool.and_eq_true,Bool.not_eq_true'] at hi
    have h1:(bootB s b).st=1:=by have:=hi.1; unfold Box.idle at this; simpa using this
    exact ⟨w1.idle hm (k.w.stopB b),t1.idle w1 hm (fun i h=>by rw [h,e1]) h1 hi.2 _,o1.idle w1 hm _⟩
   ·rename_i hi
    refine ⟨w1,t1.fill fun y hy hx=>?_,o1⟩
    have hy':y=bootB s b:=same_of w1 hm hy (by rw [hx,e1])
    subst hy'
    have h1:=k.t.w b hb (fun h=>h)
    have h2:=k.t.e b hb (fun h=>h)
    have hn : ¬ ((bootB s b).st=1∧(bootB s b).pinned=false):=fun h=>hi (by unfold Box.idle; simp [h.1,h.2])
    have hw : ¬ ∃ w,s.worth b.host b.id=some w:=fun h=>by have:=(h1.1 h).1; omega
    have he : ¬ ∃ w,s.ends b.id=some w:=fun h=>by have:=(h2.1 h).1; omega
    constructor
    ·show (∃ w,s.worth (bootB s b).host (bootB s b).id=some w)↔_
     rw [e1,e3]
     exact ⟨fun h=>absurd h hw,fun h=>absurd h hn⟩
    ·show (∃ w,s.ends (bootB s b).id=some w)↔_
     rw [e1]
     exact ⟨fun h=>absurd h he,fun h=>absurd h hn⟩
theorem gone_fns {b:Box} (hb : ∃ x,s.fns b.fn=some x) (f:Int):(s.fns f).isSome=((s.gone b).fns f).isSome:=((Ke.gone s b).some f).symm
theorem Ok.broke (k:Ok s) (id:Int):Ok (s.broke id).1:=by
 unfold CS.broke
 cases hf:s.find id with
 | none=>exact k
 | some b =>
  obtain ⟨hb,rfl⟩:=find_some hf
  obtain ⟨x,hx,_⟩:=(k.w.b.2 b hb).fn
  obtain ⟨y,hy,_⟩:=(Ke.gone s b).fn hx
  exact (k.gone hb).keep hy
def doneB (s:CS) (b:Box):Box:={ b with st:=1,since:=s.now }
def dnS (s:CS) (b:Box):CS:=(s.setBox (doneB s b)).ended b.fn
def dnD (s:CS) (b:Box) (w:Win):CS:={ (dnS s b).setFn b.fn (fun x=>{ x with til:=s.now+w.stop }) with boots:=ups ((dnS s b).setFn b.fn (fun x=>{ x with til:=s.now+w.stop })).boots b.fn (some (s.now+w.pre)) }
theorem done_eq {id:Int}:s.done id=match s.find id with
 | none=>(s,2)
 | some b=>if b.st≠2 then (s,3) else (if !(dnS s b).up b.host then (dnS s b).kill (doneB s b) else if b.pinned then dnS s b else if ((dnS s b).win b.fn).pre>0 then (dnD s b ((dnS s b).win b.fn)).kill (doneB s b) else (dnS s b).idle (doneB s b) (s.now+((dnS s b).win b.fn).stop),0):=rfl
theorem ended_form {f:Int} (hk:s.known f=true) (hb:(s.qf f.toNat).busy≠0):s.ended f={ s with qf:=upn s.qf f.toNat { s.qf f.toNat with busy:=(s.qf f.toNat).busy-1 },fns:=ups s.fns f ((s.fns f).map fun x=>{ x with last:=s.now }) }:=by
 unfold CS.ended CS.qEnd
 rw [if_pos (by simp [hk,hb])]
 rfl
theorem Ok.doneS (k:Ok s) {b:Box} (hb:b∈s.boxes) (h2:b.st=2):WF (dnS s b)∧Tidy (dnS s b) (fun i=>i=b.id)∧OB (dnS s b)∧doneB s b∈(dnS s b).boxes∧(dnS s b).now=s.now:=by
 have hnw:=k.w.now
 have hbb:=k.w.b.2 b hb
 have hr:b.runs=true:=by unfold Box.runs; simp [h2]
 have hr':(doneB s b).runs=false:=by unfold doneB Box.runs; simp
 have w1:WF (s.setBox (doneB s b)):=k.w.setBox (b:=doneB s b) hb rfl rfl rfl rfl (by unfold doneB; simp) ⟨hnw.1,Int.le_refl _⟩
 obtain ⟨x,hx,_⟩:=hbb.fn
 have hk:(s.setBox (doneB s b)).known b.fn=true:=known_of k.w hx
 have hf:=(k.w.f _ x hx).1
 have h3:=k.t.q b.fn.toNat (by omega)
 have h4:=wsum_ge (g:=runG b.fn.toNat) runG_nn hb
 have h6:runG b.fn.toNat b=1:=by unfold runG; rw [if_pos ⟨by omega,hr⟩]
 have hfm:=ended_form hk (show (s.qf b.fn.toNat).busy≠0 by omega)
 have w2:=w1.ended b.fn
 have hm:doneB s b∈(s.setBox (doneB s b)).boxes:=setBox_self k.w hb rfl
 have hsum : ∀ g:Box→Int,wsum g (s.setBox (doneB s b)).boxes=wsum g s.boxes-g b+g (doneB s b):=fun g=>wsum_repl (b:=doneB s b) k.w.b.1 hb rfl
 unfold Gh.dnS
 rw [hfm] at w2 ⊢
 refine ⟨w2,⟨fun y hy hn=>?_,fun y hy hn=>?_,fun y hy=>?_,fun h hh=>?_,fun f hlt=>?_⟩,?_,hm,rfl⟩
 ·rcases setBox_mem hy with ⟨rfl,_⟩ | ⟨h1,_⟩
  ·exact absurd rfl hn
  ·exact k.t.w y h1 fun h=>h
 ·rcases setBox_mem hy with ⟨rfl,_⟩ | ⟨h1,_⟩
  ·exact absurd rfl hn
  ·exact k.t.e y h1 fun h=>h
 ·rcases setBox_mem hy with ⟨rfl,_⟩ | ⟨h1,_⟩
  ·exact k.t.h b hb
  ·exact k.t.h y h1
 ·show (s.hosts h).used=_
  rw [hsum]
  have:memG h (doneB s b)=memG h b:=rfl
  have:=k.t.u h hh
  omega
 ·show (upn s.qf b.fn.toNat { s.qf b.fn.toNat with busy:=(s.qf b.fn.toNat).busy-1 } f).busy=_
  rw [hsum]
  have h5:=k.t.q f hlt
  have h8:runG f (doneB s b)=0:=by unfold runG; rw [if_neg (by simp [hr'])]
  unfold upn
  split
  ·rename_i e
   subst e
   simp only; omega
  ·rename_i e
   have:runG f b=0:=by unfold runG; rw [if_neg (by omega)]
   omega
 ·have:=OB.setBox (s:=s) k.o (b:=doneB s b)
  exact this
theorem WF.setBoot (w:WF s) {f t:Int} (ht:0≤t∧t≤topT) {x:Fnc} (hx:s.fns f=some x):WF { s with boots:=ups s.boots f (some t) } :=
 { w with
  o:=fun g u h=>by
   have h:ups s.boots f (some t) g=some u:=h
   unfold ups at h
   split at h
   ·rename_i e
    simp only [Option.some.injEq] at h
    subst h; subst e
    exact ⟨ht,x,hx⟩
   ·exact w.o g u h }
theorem WF.done2 (w:WF s) {f:Int} {x:Fnc} (hx:s.fns f=some x) {a b:Int} (ha:0≤a∧a≤topT) (hb:0≤b∧b≤topT):WF { s.setFn f (fun x=>{ x with til:=a }) with boots:=ups (s.setFn f (fun x=>{ x with til:=a })).boots f (some b) }:=by
 have w1:WF (s.setFn f (fun x=>{ x with til:=a })):=w.setFn fun y hy=>⟨{ (w.f f y hy).2.1 with til:=ha },rfl,rfl⟩
 exact w1.setBoot (x:={ x with til:=a }) hb (by show ups s.fns f _ f=_; unfold ups; rw [if_pos rfl,hx]; rfl)
theorem done_bd (k:Ok s) {b:Box} (hb:b∈s.boxes) (h2:b.st=2):(0≤s.now+((dnS s b).win b.fn).stop∧s.now+((dnS s b).win b.fn).stop≤topT)∧(0≤s.now+((dnS s b).win b.fn).pre∧s.now+((dnS s b).win b.fn).pre≤topT)∧((dnS s b).win b.fn).stop≤2 ^ 41∧0≤((dnS s b).win b.fn).pre∧((dnS s b).win b.fn).pre≤((dnS s b).win b.fn).stop:=by
 obtain ⟨w1,_,_,_,e⟩:=k.doneS hb h2
 have h1:=w1.win b.fn
 have h3:=w1.now
 rw [e] at h3
 unfold topT maxTime at *
 omega
theorem Ok.done2 (k:Ok s) {b:Box} (hb:b∈s.boxes) (h2:b.st=2):WF (dnD s b ((dnS s b).win b.fn))∧Tidy (dnD s b ((dnS s b).win b.fn)) (fun i=>i=b.id)∧OB (dnD s b ((dnS s b).win b.fn))∧doneB s b∈(dnD s b ((dnS s b).win b.fn)).boxes:=by
 obtain ⟨w1,t1,o1,hm,e⟩:=k.doneS hb h2
 obtain ⟨x,hx,_⟩:=(w1.b.2 _ hm).fn
 obtain ⟨hs,hp,_⟩:=done_bd k hb h2
 exact ⟨w1.done2 hx hs hp,⟨t1.w,t1.e,t1.h,t1.u,t1.q⟩,o1,hm⟩
theorem Ok.done (k:Ok s) (id:Int):Ok (s.done id).1:=by
 rw [done_eq]
 cases hf:s.find id with
 | none=>exact k
 | some b =>
  obtain ⟨hb,rfl⟩:=find_some hf
  simp only
  split
  ·exact k
  ·rename_i h2
   have h2:b.st=2:=by simpa using h2
   obtain ⟨w1,t1,o1,hm,e⟩:=k.doneS hb h2
   have hex : ∀ i,i=b.id→i=(doneB s b).id:=fun i h=>h
   simp only
   split
   ·exact ⟨w1.kill hm,t1.kill w1 hm hex,o1.kill w1 hm⟩
   ·split
    ·rename_i hp
     refine ⟨w1,t1.fill fun y hy hx=>?_,o1⟩
     have hy':y=doneB s b:=same_of w1 hm hy hx
     subst hy'
     have h3:=k.t.w b hb (fun h=>h)
     have h4:=k.t.e b hb (fun h=>h)
     have hn : ¬ ((doneB s b).st=1∧(doneB s b).pinned=false):=fun h=>by have:=h.2; unfold doneB at this; simp only [hp] at this; cases this
     have hw : ¬ ∃ w,s.worth b.host b.id=some w:=fun h=>by have:=(h3.1 h).1; omega
     have he : ¬ ∃ w,s.ends b.id=some w:=fun h=>by have:=(h4.1 h).1; omega
     have ew:(dnS s b).worth=s.worth∧(dnS s b).ends=s.ends:=by unfold dnS CS.ended CS.qEnd; split <;> exact ⟨rfl,rfl⟩
     rw [ew.1,ew.2]
     exact ⟨⟨fun h=>absurd h hw,fun h=>absurd h hn⟩,⟨fun h=>absurd h he,fun h=>absurd h hn⟩⟩
    ·rename_i hp
     split
     ·obtain ⟨w3,t3,o3,hm3⟩:=k.done2 hb h2
      exact ⟨w3.kill hm3,t3.kill w3 hm3 hex,o3.kill w3 hm3⟩
     ·exact ⟨w1.idle hm (done_bd k hb h2).1.2,t1.idle w1 hm hex rfl (by unfold doneB; simpa using hp) _,o1.idle w1 hm _⟩
theorem Ok.call (k:Ok s) (f:Int):Ok (s.call f).1:=by
 unfold CS.call
 cases ha:s.ask f with
 | none=>exact k
 | some w =>
  simp only
  split
  ·exact k
  ·rename_i h1
   split
   ·exact k
   ·rename_i h2
    have ha0:s.ask f=some 0:=by
     have:w=0∨w=1∨w=2:=by
      unfold CS.ask at ha
      split at ha
      ·cases ha
      ·simp only at ha
       split at ha
       ·simp at ha; omega
       ·split at ha
        ·simp at ha; omega
        ·simp at ha; omega
     rw [ha]; congr 1; omega
    cases hb:s.freeBox f with
    | some b=>exact k.callWarm ha0 hb
    | none =>
     simp only
     cases hx:s.fns f with
     | none=>exact k
     | some x =>
      simp only
      cases ht:s.tok x.account with
      | none=>exact k
      | some t =>
       simp only
       split
       ·exact k
       ·rename_i h0
        cases hr:s.room x.mem with
        | mk s1 o =>
         cases o with
         | none=>exact k
         | some h =>
          have:=(k.callCold (h:=h) ha0 hx ht h0 (by rw [hr])).2.2.2
          unfold coldS at this
          rw [hr] at this
          exact this
theorem Ok.out' (k:Ok s):Ok { s with out:=[] }:=⟨k.w.out [],k.t.out [],by
 have h1:=k.w.w.2.2
 unfold OB deads at *
 simp only [List.length_nil]
 omega⟩
theorem Ok.act (k:Ok s) (e:Ev) (hk:0≤e.keep):Ok (s.act e).1:=by
 unfold CS.act
 simp only
 split
 ·exact k.tick
 ·split
  ·exact k.account e
  ·split
   ·exact k.function e hk
   ·split
    ·exact k.host e
    ·split
     ·exact k.drain e.n
     ·split
      ·exact k.fail e.n
      ·split
       ·exact k.call e.n
       ·split
        ·exact k.booted e.n
        ·split
         ·exact k.broke e.n
         ·exact k.done e.n
theorem right_keep {e:Ev} (h:e.right=true):0≤e.keep:=by
 unfold Ev.right at h
 split at h
 ·simp only [beq_iff_eq] at h; rw [h]; simp [Ev.zero]
 ·split at h
  ·simp only [Bool.and_eq_true,beq_iff_eq] at h; rw [h.2]; simp [Ev.zero]
  ·split at h
   ·simp only [Bool.and_eq_true,decide_eq_true_eq] at h
    unfold inr at h; omega
   ·split at h
    ·simp only [Bool.and_eq_true,beq_iff_eq] at h; rw [h.2]; simp [Ev.zero]
    ·simp only [Bool.and_eq_true,beq_iff_eq] at h; rw [h.2]; simp [Ev.zero]
theorem Ok.ans (k:Ok s) (a:Nat→Int):Ok { s with ans:=a }:=⟨{ k.w with },⟨k.t.w,k.t.e,k.t.h,k.t.u,k.t.q⟩,k.o⟩
theorem Ok.step (k:Ok s) (e:Ev):Ok (s.step e).1:=by
 unfold CS.step
 split
 ·exact k
 ·rename_i h
  exact (k.out'.act e (right_keep (by simpa using h))).ans _
theorem Ok.init:Ok {}:=by
 have w:WF {}:=⟨by decide,⟨List.Pairwise.nil,fun b hb=>(by cases hb)⟩,fun id t h=>(by cases h),⟨fun h id w hw=>(by cases hw),fun h=>(by unfold deads; simp),by unfold deads; simp⟩,fun f t h=>(by cases h),fun id t h=>(by cases h),fun f x h=>(by cases h),
  ⟨fun i=>by simp,fun i=>by simp,fun i hi=>by simp,fun i x h=>(by cases h)⟩,fun a b h=>(by cases h),fun h=>WMach.zero⟩
 exact ⟨w,⟨fun b hb=>(by cases hb),fun b hb=>(by cases hb),fun b hb=>(by cases hb),fun h hh=>rfl,fun f hf=>rfl⟩,by unfold OB deads; simp⟩
theorem pins_next {f:Int} : ∀ n (s:CS),(CS.pins f n s).next≤s.next+n:=by
 intro n
 induction n with
 | zero=>intro s; simp [CS.pins]
 | succ n ih =>
  intro s
  simp only [CS.pins]
  cases h:s.pin1 f with
  | none=>simp only; omega
  | some s1 =>
   have h1:=ih s1
   have h2:s1.next≤s.next+1:=by
    unfold CS.pin1 at h
    cases hs:s.spare f with
    | some b=>simp only [hs,Option.some.injEq] at h; subst h; show s.next≤_; omega
    | none =>
     cases hr:(s.room (s.memOf f)).2 with
     | none=>simp only [hs,hr] at h; cases h
     | some kk =>
      simp only [hs,hr,Option.some.injEq] at h
      subst h
      have e1 : ∀ (s:CS) f h,(s.start f h).1.next=s.next+1:=by
       intro s f h
       rfl
      have e2:(s.room (s.memOf f)).1.next=s.next:=by
       have ev : ∀ h m n (s:CS),(s.evict h m n).next=s.next:=by
        intro h m n
        induction n with
        | zero=>intro s; rfl
        | succ n ih =>
         intro s
         simp only [CS.evict]
         split
         ·split
          ·rfl
          ·split
           ·rfl
           ·rw [ih,(kill_boxes _ _).2.1]
         ·rfl
       unfold CS.room
       split
       ·rfl
       ·split
        ·rfl
        ·exact ev _ _ _ _
      show ((s.room (s.memOf f)).1.start f kk).1.next≤_
      rw [e1,e2]; omega
   simp only; omega
end
end Gh

namespace Go.Ab
open Go Gh
variable {P : Program} {F : Nums}
section
variable {c : Nat} {o o' : AV} {H A B : AH} {s s' s2 : CS}
theorem ids_stay {v:AV} {l:List Int} (hc:CoreAt F c o s H) (hv:IdsAt v l A) (hq : ∀ q,inSl v q→H.k≤q.i) (h:CStep F c o A o' s' B):IdsAt v l B:=by
 rcases hv with h1 | ⟨m,cc,g,m1,m2,m3,m4,m5,m6⟩
 ·exact .inl h1
 ·have hm:H.k≤m.i:=hq m ⟨1,0,l.length,m3⟩
  refine .inr ⟨m,cc,g,m1,Int.lt_of_lt_of_le m2 h.fra.k,m3,m4,?_,m6⟩
  rw [h.fra.at_ m (fun _=>m2) (fun hS=>?_)]
  ·exact m5
  ·rcases hS with hS | hS
   ·have:m.t / 64=c+1:=hS
    rw [m1] at this; omega
   ·rcases hc.out with ⟨_,e⟩ | ⟨_,m',_,_,m1',e,_⟩
    ·obtain ⟨_,e'⟩:=hS; rw [e] at e'; cases e'
    ·obtain ⟨_,e'⟩:=hS; rw [e] at e'; cases e'
     omega
theorem ids_same {v:AV} {l:List Int} (hv:IdsAt v l A) (h:Same A B):IdsAt v l B:=by
 rcases hv with h1 | ⟨m,cc,g,m1,m2,m3,m4,m5,m6⟩
 ·exact .inl h1
 ·exact .inr ⟨m,cc,g,m1,Int.lt_of_lt_of_le m2 h.k,m3,m4,h.some (fun _=>m2) m5,m6⟩
theorem keeps_next : ∀ (l:List Int) (s:CS),s.next≤(l.foldl (fun s f=>s.keep f) s).next
 | [],s=>Int.le_refl _
 | f::l,s=>by
  rw [List.foldl_cons]
  exact Int.le_trans (Ke.keep s f).next (keeps_next l _)
theorem keeps_ke : ∀ (l:List Int) (s:CS),Ke s (l.foldl (fun s f=>s.keep f) s)
 | [],s=>.refl s
 | f::l,s=>by
  rw [List.foldl_cons]
  exact (Ke.keep s f).trans (keeps_ke l _)
theorem core_keepAll_c (E:EnvK P F) (k:Ok s) (hn:s.keepAll.next≤1000000000) (hc:CoreAt F c o s H) :
  ACalls P F.core_keepAll [.ptr (nC c) 0] H (fun _ H' => ∃ o',CStep F c o H o' s.keepAll H'):=by
 refine fn_rule E.e.g.mixed E.e.g.core_keepAll rfl [] (fun hcl=>?_)
 have hcr:=hc.core
 have hm:=hc.fns.map
 simp only [go_sem,hcr]
 refine CA_s [] (Keys_fn_c E.e) ?_
 rintro _ H1 ⟨rfl,h1,hk1,hs1⟩ _ _
 have hs1:Same H H1:=hs1.of_mk
 have hk1:H.k+1≤H1.k:=hk1
 simp only [go_sem]
 refine CA_s [] (Sorted_c (callable_of E.e.g.slices_Sorted) E.e.sf (H:=⟨H1.f,H1.k,[]⟩) (n:=nFns c) (ks:=fnIds s) h1 (hs1.some (old_of tg_ne0) hm) (fun x=>?_) fnIds_sorted ?_ ?_) ?_
 ·show (s.fns x).map _≠none↔_
  rw [← fnIds_mem k.w]
  cases s.fns x <;> simp
 ·intro f hf
  have:=fnIds_bd f hf
  omega
 ·have:(fnIds s).length≤64:=by
   unfold fnIds
   refine Nat.le_trans (List.length_filter_le ..) ?_
   simp
  omega
 rintro v H2 ⟨hv,hs2,hq⟩ _ _
 have hs2:Same H1 H2:=hs2.of_mk
 have hs2':=hs1.trans hs2
 have hq : ∀ q,inSl v q→H.k≤q.i:=fun q h=>by have:=hq q h; have:H1.k≤q.i:=this; omega
 have hln:(fnIds s).length<2147483648:=by
  have:(fnIds s).length≤64:=by
   unfold fnIds
   refine Nat.le_trans (List.length_filter_le ..) ?_
   simp
  omega
 have hvl:lenV v=some (i64 ((fnIds s).length:Int)):=by
  rcases hv with ⟨e,rfl⟩ | ⟨m,cc,g,_,_,rfl,_⟩
  ·rw [e]; rfl
  ·rfl
 have hkeq:=keepAll_eq (s:=s)
 have hmem : ∀ f∈fnIds s,(s.fns f).isSome=true:=fun f hf=>by unfold fnIds at hf; exact (List.mem_filter.1 hf).2
 generalize fnIds s=l at hv hln hvl hkeq hmem
 unfold lenV at hvl
 simp only [go_sem,hvl]
 refine C_loop (fun n l' H' => ∃ (j:Nat) (o':AV) (r:List (Nat × AV)),j+n=l.length∧Ok ((l.take j).foldl (fun s f=>s.keep f) s)∧CStep F c o H o' ((l.take j).foldl (fun s f=>s.keep f) s) H'∧CStep F c o H2 o' ((l.take j).foldl (fun s f=>s.keep f) s) H' ∧
   l'=(0,.ptr (nC c) 0)::(9,v)::(10,i64 (l.length:Int))::(11,i64 (j:Int))::r) l.length ⟨0,o,[],by omega,k,(CStep.in_ (hc.same hs2') hs2'.fra).mk',(CStep.in_ (hc.same hs2') (Fra.refl _ _)).mk',rfl⟩ ?_
 rintro n _ H3 ⟨j,o',r,hj,kj,h3,h3',rfl⟩ _ _
 refine ⟨[],?_⟩
 simp only [go_sem]
 refine EI_i (fun d=>?_) (fun d=>?_)
 ·have d:j<l.length:=by simp at d; omega
  have hv3:=ids_stay hc hv hq h3'
  rcases hv3 with ⟨e,rfl⟩ | ⟨m,cc,g,m1,m2,rfl,m4,m5,m6⟩
  ·rw [e] at d; simp at d
  have i0:(0:Int)≤(j:Int):=by omega
  have i1:(j:Int)<(l.length:Int):=by omega
  have i2:j<cc:=by omega
  have g5:g j=i64 (l[j]):=by rw [m6 j d,List.getD_eq_getElem?_getD,List.getElem?_eq_getElem d]; rfl
  have wj:=wrapS (i:=j) (by omega)
  have hsuc:=foldl_take (fun s f=>CS.keep s f) s l j d
  have hxs:(((l.take j).foldl (fun s f=>s.keep f) s).fns l[j]).isSome=true:=by rw [(keeps_ke _ s).some]; exact hmem _ (List.getElem_mem d)
  obtain ⟨x,hx⟩:=Option.isSome_iff_exists.1 hxs
  have hnx:(CS.keep ((l.take j).foldl (fun s f=>s.keep f) s) l[j]).next≤1000000000:=by
   rw [← hsuc]
   have:l=l.take (j+1)++l.drop (j+1):=(List.take_append_drop ..).symm
   rw [hkeq,this,List.foldl_append] at hn
   exact Int.le_trans (keeps_next _ _) hn
  have kj':=kj.keep hx
  simp only [go_sem,i0,i1,i2,Int.toNat_natCast,Nat.mul_one,m5,g5]
  refine CA_s [] (core_keep_c E (H:=⟨H3.f,H3.k,[]⟩) kj hx hnx h3.at_.mk') ?_
  rintro _ H4 ⟨o4,h4⟩ _ _
  have h4:=h4.of_mk
  simp only [go_sem,wj]
  refine ⟨n-1,_,rfl,by omega,j+1,o4,_,by omega,?_,?_,?_,rfl⟩
  ·rw [hsuc]; exact kj'
  ·rw [hsuc]; exact (h3.trans h4).mk'
  ·rw [hsuc]; exact (h3'.trans h4).mk'
 ·have d:j=l.length:=by simp at d; omega
  subst d
  rw [List.take_length] at h3
  rw [hkeq]
  simp only [go_sem]
  exact ⟨o',h3.mk'⟩
end
end Go.Ab

namespace Go.Ab
open Go Gh
variable {P : Program} {F : Nums}
section
variable {c : Nat} {o o' : AV} {H A B : AH} {s s' s2 : CS}
theorem V_cut {r:List Ins} {L:List Nat} {n:Nat} {b:AC} {Q:Qs} {e:Nat→Fr→AH→Prop} {rr:Fr→AH→Prop} {l:List (Nat × AV)} {H:AH} (h:V P r (RK L n ⟨RT P b Q,e,rr⟩) l H ⟨⟩):V P r (RK L n ⟨fun t' H'=>vc P b Q t' H',e,rr⟩) l H ⟨⟩:=h
theorem find_ptr {id:Int} (c:Nat):ptrMap (nBox c) (findB s.boxes) [id]=(s.find id).map fun _=>.ptr (nBox c id) 0:=rfl
theorem up_boot {b:Box}:Box.up b s.now=bootB s b:=by unfold Box.up bootB; split <;> rfl
theorem core_booted_c (E:EnvK P F) (k:Ok s) (hn:s.next≤1000000000) (hc:CoreAt F c o s H) {id:Int} :
  ACalls P F.core_booted [.ptr (nC c) 0,i64 id] H (fun v H'=>v=i64 (s.booted id).2 ∧ ∃ o',CStep F c o H o' (s.booted id).1 H'):=by
 refine fn_rule E.e.g.mixed E.e.g.core_booted rfl [] (fun hcl=>?_)
 have hcr:=hc.core
 have hm:=hc.boxes.map
 have hpm:=find_ptr (s:=s) (id:=id) c
 rw [booted_eq]
 cases hf:s.find id with
 | none =>
  rw [hf] at hpm
  simp only [go_sem,hcr,hm,hpm]
  exact ⟨o,(CStep.in_ hc (Fra.refl _ _)).mk'⟩
 | some b =>
 rw [hf] at hpm
 obtain ⟨hb,rfl⟩:=find_some hf
 have hr:=hc.boxes.row b hb
 simp only [go_sem,hcr,hm,hpm]
 refine CA_s [] (box_Booted_c E.e.g (b:=b) (now:=s.now) (H:=⟨H.f,H.k,[]⟩) hr) ?_
 rintro _ H1 ⟨rfl,h1⟩ _ _
 simp only [go_sem]
 by_cases h0:b.st=0
 rotate_left
 ·rw [if_neg h0] at h1
  have e:(b.st==0)=false:=by simpa using h0
  have h1:Same H H1:=h1.of_mk
  rw [if_pos h0]
  simp only [go_sem,e,Bool.not_false]
  exact ⟨o,(CStep.in_ (hc.same h1) h1.fra).mk'⟩
 rw [if_pos h0] at h1
 have e:(b.st==0)=true:=by simpa using h0
 obtain ⟨hb1,hf1⟩:=h1
 have hf1:Fra (At (nBox c b.id)) H H1:=hf1.of_mk
 rw [up_boot] at hb1
 obtain ⟨w1,t1,o1,hmB⟩:=k.bootS hb h0
 obtain ⟨e1,e2,e3,e4,e5⟩:=bootB_same (s:=s) (b:=b)
 have hc1:CoreAt F c o (s.setBox (bootB s b)) H1:=hc.box (b:=bootB s b) (by rw [e1]; exact (k.w.b.2 b hb).id.2) (by rw [e1]; exact hf1) (by rw [e1]; exact hb1)
 rw [if_neg (by simpa using h0)]
 have ha1:H1.f (nAhead c)=some (.mp 1 (valMap i64 s.ahead)):=hc1.ahead
 have hal:valMap i64 s.ahead [b.id]=(s.ahead b.id).map i64:=rfl
 have n1:nC c≠nAhead c:=fun e=>by have:=congrArg Nm.t e; simp [tg_inj] at this
 have n2:nBox c b.id≠nAhead c:=fun e=>by have:=congrArg Nm.t e; simp [tg_inj] at this
 have hc2:CoreAt F c o (btS s b) ((⟨H1.f,H1.k,[]⟩:AH).set (nAhead c) (.mp 1 (mset (valMap i64 s.ahead) [b.id] none))) :=
  hc1.ahead' (x:=ups s.ahead b.id none) Fra.mk1.s1 (fun n h=>by rw [h]) (by unfold AheadAt; simp only [go_sem]; rw [valMap_del])
 have hfr2:Fra (inCt c) H ((⟨H1.f,H1.k,[]⟩:AH).set (nAhead c) (.mp 1 (mset (valMap i64 s.ahead) [b.id] none))) :=
  (hf1.mono fun n h=>in_at (by decide) rfl h).trans (Fra.mono (Fra.mk1.s1 (n:=nAhead c)) fun n h=>in_at (by decide) rfl h)
 have hwb:bootStop s b=match s.ahead b.id with | some t=>t | none=>s.now+(s.win b.fn).stop:=rfl
 obtain ⟨x,hx,_⟩:=(k.w.b.2 b hb).fn
 have hbn:(btS s b).next≤1000000000:=hn
 have tail : ∀ (H2:AH) (r:List (Nat × AV)),CStep F c o H o (btS s b) H2 →
   RT P (c_core_booted F).ac.tl.tl.tl.tl.tl.tl.tl ⟨endQ [.tmp 4] (fun v H'=>v=i64 0 ∧ ∃ o',CStep F c o H o' (if (bootB s b).idle && !(bootB s b).pinned then (btS s b).idle (bootB s b) (bootStop s b) else btS s b) H'),fun _ _ _=>False,endQ [.tmp 4] (fun v H'=>v=i64 0 ∧ ∃ o',CStep F c o H o' (if (bootB s b).idle && !(bootB s b).pinned then (btS s b).idle (bootB s b) (bootStop s b) else btS s b) H')⟩
    (fr ((0,.ptr (nC c) 0)::(5,.ptr (nBox c b.id) 0)::(6,i64 (bootStop s b))::r)) H2:=by
  intro H2 r h2
  simp only [c_core_booted,AC.tl_seq]
  refine RT_i ?_
  have hr2:=h2.at_.boxes.row _ hmB
  rw [e1] at hr2
  simp only [go_sem]
  refine CA_s [] (box_Idle_c E.e.g (b:=bootB s b) (H:=H2) hr2) ?_
  rintro _ H3 ⟨rfl,hs3⟩ _ _
  have hc3:=h2.at_.same hs3
  have h3:=h2.trans (CStep.in_ hc3 hs3.fra)
  have hr3:=hc3.boxes.row _ hmB
  rw [e1] at hr3
  simp only [go_sem]
  refine EI_i (fun d=>?_) (fun d=>?_)
  ·simp only [go_sem,d,hr3]
   refine EI_i (fun d2=>?_) (fun d2=>?_)
   ·simp only [go_sem]
    have hi:=core_idle_c E.e.g (H:=⟨H3.f,H3.k,[]⟩) w1 (Few.of hbn) (Gh.Ok.out (s:=s) k hn) hc3.mk' hmB (stop:=bootStop s b)
    rw [e1] at hi
    refine CA_s [] hi ?_
    rintro _ H4 ⟨o4,h4⟩ _ _
    have h4:=h4.of_mk
    simp only [go_sem]
    rw [d,d2]
    exact ⟨o4,(h3.trans h4).mk'⟩
   ·simp only [go_sem]
    rw [d,d2]
    exact ⟨o,h3.mk'⟩
  ·simp only [go_sem,d]
   exact ⟨o,h3.mk'⟩
 have h2:CStep F c o H o (btS s b) ((⟨H1.f,H1.k,[]⟩:AH).set (nAhead c) (.mp 1 (mset (valMap i64 s.ahead) [b.id] none))):=CStep.in_ hc2 hfr2
 refine EI_i (fun d=>by rw [e] at d; cases d) (fun _=>?_)
 refine V_cut ?_
 have hcr1:=hc1.core
 have hst : ∀ t,s.ahead b.id=some t→bootStop s b=t:=fun t h=>by rw [hwb,h]
 cases hah:s.ahead b.id with
 | some t =>
  rw [hah] at hal
  simp only [go_sem,hcr1,ha1,hal]
  refine RT_i ?_
  refine W_cut ?_
  simp only [go_sem,hcr1,ha1]
  refine RT_i ?_
  refine W_cut ?_
  simp only [go_sem]
  rw [← hst t hah]
  exact tail _ _ h2
 | none =>
  rw [hah] at hal
  simp only [go_sem,hcr1,ha1,hal]
  refine RT_i ?_
  refine W_cut ?_
  simp only [go_sem,hcr1,ha1]
  refine RT_i ?_
  refine W_cut ?_
  have hbr2:H1.f (nBox c b.id)=_:=hb1
  simp only [go_sem,n1,n2,hcr1,hbr2,e2]
  refine CA_s [] (core_window_c E.e.g w1 h2.at_ (f:=b.fn) (x:=x) hx) ?_
  rintro _ H3 ⟨rfl,hs3⟩ _ _
  have hc3:=hc2.same hs3
  have hwin:(btS s b).win b.fn=s.win b.fn:=rfl
  have hnow:(btS s b).now=s.now:=rfl
  have hnow':(s.setBox (bootB s b)).now=s.now:=rfl
  have hwn:=k.w.win b.fn
  have hnw:=k.w.now
  have wz:IntKind.i64.wrap (s.now+(s.win b.fn).stop)=s.now+(s.win b.fn).stop:=by
   have h2:=hwn.2.2
   unfold maxTime at hnw
   exact wrap64 (by omega) (by omega)
  have h3:=h2.trans (CStep.in_ hc3 hs3.fra)
  simp only [go_sem,hc3.core,hwin,hnow,hnow',wz,holdsOk_cons,gd_none,pureV,forall_const,fr_lkp,and_self]
  have e9:s.now+(s.win b.fn).stop=bootStop s b:=by rw [hwb,hah]
  rw [e9]
  exact tail _ _ h3.mk'
end
end Go.Ab

namespace Go.Ab
open Go Gh
variable {P : Program} {F : Nums}
section
variable {c : Nat} {o o' : AV} {H A B : AH} {s s' s2 : CS}
theorem core_broke_c (E:EnvK P F) (k:Ok s) {id:Int} (hn:(s.broke id).1.next≤1000000000) (hc:CoreAt F c o s H) :
  ACalls P F.core_broke [.ptr (nC c) 0,i64 id] H (fun v H'=>v=i64 (s.broke id).2 ∧ ∃ o',CStep F c o H o' (s.broke id).1 H'):=by
 refine fn_rule E.e.g.mixed E.e.g.core_broke rfl [] (fun hcl=>?_)
 have hcr:=hc.core
 have hm:=hc.boxes.map
 have hpm:=find_ptr (s:=s) (id:=id) c
 have heq:s.broke id=match s.find id with
  | none=>(s,2)
  | some b=>((s.gone b).keep b.fn,0):=rfl
 rw [heq] at hn ⊢
 cases hf:s.find id with
 | none =>
  rw [hf] at hpm
  simp only [go_sem,hcr,hm,hpm]
  exact ⟨o,(CStep.in_ hc (Fra.refl _ _)).mk'⟩
 | some b =>
 rw [hf] at hpm hn
 obtain ⟨hb,rfl⟩:=find_some hf
 have hn:((s.gone b).keep b.fn).next≤1000000000:=hn
 have hg:=gone_boxes s b
 have hnx:s.next≤1000000000:=by
  have:=(Ke.keep (s.gone b) b.fn).next
  rw [hg.2.1] at this; omega
 obtain ⟨x,hx,_⟩:=(k.w.b.2 b hb).fn
 obtain ⟨y,hy,_⟩:=(Ke.gone s b).fn hx
 simp only [go_sem,hcr,hm,hpm]
 refine CA_s [] (core_gone_w E.e.g (H:=⟨H.f,H.k,[]⟩) k.w (Few.of hnx) hc.mk' hb) ?_
 rintro _ H1 ⟨hc1,hb1,hf1⟩ _ _
 have hf1:Fra (inCt c) H H1:=hf1.of_mk
 have hkb:(Ab.Box.killed b s.now).fn=b.fn:=by unfold Ab.Box.killed; split <;> rfl
 simp only [go_sem,hb1,hkb]
 refine CA_s [] (core_keep_c E (H:=⟨H1.f,H1.k,[]⟩) (k.gone hb) hy hn hc1.mk') ?_
 rintro _ H2 ⟨o2,h2⟩ _ _
 simp only [go_sem]
 exact ⟨o2,((CStep.in_ hc1 hf1).trans h2.of_mk).mk'⟩
theorem core_drain_1_c (G:Good P F) {n:Nm} {b:Box} {H:AH} (hb:H.f n=some (.row 8 (cs (boxC b)))) {nf:Nm} {f:Int} (hf:H.f nf=some (.row 1 (cs [i64 f]))) :
  ACalls P F.core_drain_1 [.ptr n 0,.ptr nf 0] H (fun v H'=>v=.bool (b.host==f)∧Same H H'):=by
 refine fn_rule G.mixed G.core_drain_1 rfl [] (fun hcl=>?_)
 simp only [go_sem,hb,hf]
 exact Same.mk1
theorem core_fail_1_c (G:Good P F) {n:Nm} {b:Box} {H:AH} (hb:H.f n=some (.row 8 (cs (boxC b)))) {nf:Nm} {f:Int} (hf:H.f nf=some (.row 1 (cs [i64 f]))) :
  ACalls P F.core_fail_1 [.ptr n 0,.ptr nf 0] H (fun v H'=>v=.bool (b.host==f)∧Same H H'):=by
 refine fn_rule G.mixed G.core_fail_1 rfl [] (fun hcl=>?_)
 simp only [go_sem,hb,hf]
 exact Same.mk1
theorem drainS_next {b:Box}:(drainS s b).next=s.next:=by
 unfold drainS
 split
 ·rfl
 ·exact (kill_boxes s b).2.1
theorem folds_next {g:CS→Box→CS} (hg : ∀ s b,(g s b).next=s.next) : ∀ (l:List Box) (s:CS),(l.foldl g s).next=s.next
 | [],_=>rfl
 | b::l,s=>by rw [List.foldl_cons,folds_next hg l,hg]
theorem core_drain_c (E:EnvK P F) (k:Ok s) {h:Int} (hn:(s.drain h).1.next≤1000000000) (hc:CoreAt F c o s H) :
  ACalls P F.core_drain [.ptr (nC c) 0,i64 h] H (fun v H'=>v=i64 (s.drain h).2 ∧ ∃ o',CStep F c o H o' (s.drain h).1 H'):=by
 refine fn_rule E.e.g.mixed E.e.g.core_drain rfl [] (fun hcl=>?_)
 have hcr:=hc.core
 have n1:nC c≠⟨0,H.k,0⟩:=fun e=>tg_ne0 (congrArg Nm.t e)
 have n2:nHosts c≠⟨0,H.k,0⟩:=fun e=>tg_ne0 (congrArg Nm.t e)
 have hs0:Same H (bmp 1 ((⟨H.f,H.k,[]⟩:AH).set ⟨0,H.k,0⟩ (.row 1 (cs [i64 h])))):=(Same.mk1.tmp).bmp
 have hc0:=hc.same hs0
 rw [drain_eq] at hn ⊢
 simp only [go_sem,hcr,n1]
 refine CA_s [] (host_Drain_c E.e.g (n:=nHosts c) tg_ne0 s (h:=h) (H:=bmp 1 ((⟨H.f,H.k,[]⟩:AH).set ⟨0,H.k,0⟩ (.row 1 (cs [i64 h])))) hc0.hosts) ?_
 rintro _ H1 ⟨rfl,hh1,hf1⟩ hk1 _
 have hk1:H.k+1≤H1.k:=hk1
 have hb1:H1.f ⟨0,H.k,0⟩=some (.row 1 (cs [i64 h])):=by rw [hf1.at_ _ (fun _=>by show H.k<H.k+1; omega) (fun e=>n2 e.symm)]; simp only [go_sem]
 have hd_eq:(s.hDrain h).1={ s with hosts:=(s.hDrain h).1.hosts }:=by
  unfold CS.hDrain
  split
  ·rfl
  ·split <;> rfl
 have hc1:CoreAt F c o (s.hDrain h).1 H1:=by
  rw [hd_eq]
  exact hc0.hosts' hf1 (fun n h=>by rw [h]) hh1
 have hst1:CStep F c o H o (s.hDrain h).1 H1:=(CStep.in_ hc0 hs0.fra).trans (CStep.in_ hc1 (hf1.mono fun n h=>in_at (by decide) rfl h))
 simp only [go_sem]
 refine EI_i (fun d=>?_) (fun d=>?_)
 ·have d:(s.hDrain h).2≠0:=by simpa using d
  rw [if_pos d]
  simp only [go_sem]
  exact ⟨o,hst1.mk'⟩
 have d:(s.hDrain h).2=0:=by simpa using d
 rw [if_neg (by simp [d])] at hn ⊢
 have k1:=k.hDrain d
 have hnf:=folds_next (g:=drainS) (fun s b=>drainS_next) ((s.hDrain h).1.pick fun b=>b.host==h) (s.hDrain h).1
 have hn:((((s.hDrain h).1.pick fun b=>b.host==h).foldl drainS (s.hDrain h).1).keepAll).next≤1000000000:=hn
 have hn1:(s.hDrain h).1.next≤1000000000:=by
  have:=(Ke.keepAll (((s.hDrain h).1.pick fun b=>b.host==h).foldl drainS (s.hDrain h).1)).next
  rw [hnf] at this; omega
 generalize (s.hDrain h).1=s1 at hc1 hst1 k1 hn hn1 hnf
 have hi:=ids_ok k1.w (Few.of hn1)
 simp only [go_sem]
 refine CA_s [] (core_where_c E.e (s:=s1) (o:=o) (boxes:=s1.boxes) (p:=fun b=>b.host==h) (H:=⟨H1.f,H1.k,[]⟩) hc1.core hc1.boxes.map hi ?_) ?_
 ·intro b hb H' hs'
  have hs'':Same H1 H':=hs'.of_mk
  exact core_drain_1_c E.e.g ((hc1.same hs'').boxes.row b hb) (hs''.some (fun _=>by show H.k<H1.k; omega) hb1)
 rintro v H2 ⟨hv,hs2,hq⟩ _ _
 have hs2:Same H1 H2:=hs2.of_mk
 have hq : ∀ q,inSl v q→H.k≤q.i:=fun q h=>by have:=hq q h; have:H1.k≤q.i:=this; omega
 have hc2:=hc1.same hs2
 have hst2:=hst1.trans (CStep.in_ hc2 hs2.fra)
 have hpl:(s1.boxes.filter fun b=>b.host==h)=s1.pick fun b=>b.host==h:=rfl
 rw [hpl] at hv
 have hsrt:=pick_srt k1 fun b=>b.host==h
 have hsub:=pick_sub (s:=s1) fun b=>b.host==h
 have hll:(s1.pick fun b=>b.host==h).length<2147483648:=Nat.lt_of_le_of_lt (List.length_filter_le ..) hi.l
 generalize (s1.pick fun b=>b.host==h)=l at hv hsrt hsub hll hn hnf
 have hvl:lenV v=some (i64 (l.length:Int)):=by
  rcases hv with ⟨e,rfl⟩ | ⟨m,cc,g,_,_,rfl,_⟩
  ·have:l=[]:=by simpa using e
   rw [this]; rfl
  ·simp only [lenV,List.length_map]
 have hat:=fold_at (g:=drainS) (fun s b k hb=>k.drainS hb) (fun s y b hb h=>drainS_keep hb h) k1 hsrt hsub
 unfold lenV at hvl
 simp only [go_sem,hvl]
 refine C_loop (fun n l' H' => ∃ (j:Nat) (o':AV) (r:List (Nat × AV)),j+n=l.length∧CStep F c o H o' ((l.take j).foldl drainS s1) H'∧CStep F c o H2 o' ((l.take j).foldl drainS s1) H' ∧
   l'=(0,.ptr (nC c) 0)::(20,v)::(21,i64 (l.length:Int))::(22,i64 (j:Int))::r) l.length ⟨0,o,[],by omega,hst2.mk',(CStep.in_ hc2 (Fra.refl _ _)).mk',rfl⟩ ?_
 rintro n _ H3 ⟨j,o',r,hj,h3,h3',rfl⟩ _ _
 refine ⟨[],?_⟩
 obtain ⟨kj,hmj⟩:=hat j (by omega)
 simp only [go_sem]
 refine EI_i (fun d=>?_) (fun d=>?_)
 ·have d:j<l.length:=by simp at d; omega
  have hv3:=ids_stay hc hv hq h3'
  rcases hv3 with ⟨e,rfl⟩ | ⟨m,cc,g,m1,m2,rfl,m4,m5,m6⟩
  ·have:l=[]:=by simpa using e
   rw [this] at d; simp at d
  rw [List.length_map] at m4 m6
  have i0:(0:Int)≤(j:Int):=by omega
  have i1:(j:Int)<(l.length:Int):=by omega
  have i2:j<cc:=by omega
  have g5:g j=i64 (l[j]).id:=by rw [m6 j d,List.getD_eq_getElem?_getD,List.getElem?_map,List.getElem?_eq_getElem d]; rfl
  have wj:=wrapS (i:=j) (by omega)
  have hsuc:=foldl_take drainS s1 l j d
  have hb:=hmj j d (Nat.le_refl _)
  have hnj:((l.take j).foldl drainS s1).next≤1000000000:=by have:=folds_next (g:=drainS) (fun s b=>drainS_next) (l.take j) s1; omega
  generalize l[j]=b at hsuc hb g5
  generalize (l.take j).foldl drainS s1=s3 at kj h3 h3' hsuc hb hnj
  have pmb:ptrMap (nBox c) (findB s3.boxes) [b.id]=some (.ptr (nBox c b.id) 0):=by
   show (findB s3.boxes b.id).map _=_
   rw [findB_mem (ids_ok kj.w (Few.of hnj)) hb]; rfl
  have hrb:=h3.at_.boxes.row b hb
  simp only [go_sem,List.length_map,i0,i1,i2,Int.toNat_natCast,Nat.mul_one,m5,g5,h3.at_.core,h3.at_.boxes.map,pmb]
  refine CA_s [] (box_Runs_c E.e.g (b:=b) (H:=⟨H3.f,H3.k,[]⟩) hrb) ?_
  rintro _ H4 ⟨rfl,hs4⟩ _ _
  have hs4:Same H3 H4:=hs4.of_mk
  have hc4:=h3.at_.same hs4
  have hst4:=CStep.in_ (o:=o') hc4 hs4.fra
  simp only [go_sem]
  refine EI_i (fun dr=>?_) (fun dr=>?_)
  ·have hrb4:=hc4.boxes.row b hb
   simp only [go_sem,hrb4,wj]
   have hst5:CStep F c o' H3 o' (s3.setBox { b with pinned:=false }) ((⟨H4.f,H4.k,[]⟩:AH).set (nBox c b.id) (.row 8 (cs (boxC { b with pinned:=false })))):=hst4.trans (CStep.in_ (hc4.box (b:={ b with pinned:=false }) (kj.w.b.2 b hb).id.2 Fra.mk1.s1 (by simp only [go_sem])) (Fra.mono (Fra.mk1.s1 (n:=nBox c (Box.id b))) fun n h=>in_at (by decide) rfl h))
   have e:drainS s3 b=s3.setBox { b with pinned:=false }:=by unfold drainS; rw [if_pos dr]
   refine ⟨n-1,_,rfl,by omega,j+1,o',[],by omega,?_,?_,rfl⟩
   ·rw [hsuc,e]; exact h3.trans hst5
   ·rw [hsuc,e]; exact h3'.trans hst5
  ·simp only [go_sem]
   refine CA_s [] (core_kill_w E.e.g (H:=⟨H4.f,H4.k,[]⟩) kj.w (Few.of hnj) (kj.out hnj) hc4.mk' hb) ?_
   rintro _ H5 ⟨o5,h5⟩ _ _
   have hst5:=hst4.trans h5.of_mk
   have e:drainS s3 b=s3.kill b:=by unfold drainS; rw [if_neg (by simp [dr])]
   simp only [go_sem,wj]
   refine ⟨n-1,_,rfl,by omega,j+1,o5,[],by omega,?_,?_,rfl⟩
   ·rw [hsuc,e]; exact (h3.trans hst5).mk'
   ·rw [hsuc,e]; exact (h3'.trans hst5).mk'
 ·have d:j=l.length:=by simp at d; omega
  subst d
  rw [List.take_length] at h3 kj
  simp only [go_sem]
  refine CA_s [] (core_keepAll_c E (H:=⟨H3.f,H3.k,[]⟩) kj hn h3.at_.mk') ?_
  rintro _ H4 ⟨o4,h4⟩ _ _
  simp only [go_sem]
  exact ⟨o4,(h3.trans h4.of_mk).mk'⟩
end
end Go.Ab

namespace Go.Ab
open Go Gh
variable {P : Program} {F : Nums}
section
variable {c : Nat} {o o' : AV} {H A B : AH} {s s' s2 : CS}
theorem goneAll_next {h:Int}:(goneAll s h).next=s.next:=folds_next (g:=fun s b=>s.gone b) (fun s b=>(gone_boxes s b).2.1) _ _
theorem core_fail_c (E:EnvK P F) (k:Ok s) {h:Int} (hn:(s.fail h).1.next≤1000000000) (hc:CoreAt F c o s H) :
  ACalls P F.core_fail [.ptr (nC c) 0,i64 h] H (fun v H'=>v=i64 (s.fail h).2 ∧ ∃ o',CStep F c o H o' (s.fail h).1 H'):=by
 refine fn_rule E.e.g.mixed E.e.g.core_fail rfl [] (fun hcl=>?_)
 have hcr:=hc.core
 have n1:nC c≠⟨0,H.k,0⟩:=fun e=>tg_ne0 (congrArg Nm.t e)
 have hs0:Same H (bmp 1 ((⟨H.f,H.k,[]⟩:AH).set ⟨0,H.k,0⟩ (.row 1 (cs [i64 h])))):=(Same.mk1.tmp).bmp
 have hc0:=hc.same hs0
 rw [fail_eq] at hn ⊢
 simp only [go_sem,hcr,n1]
 refine CA_s [] (host_There_c E.e.g (n:=nHosts c) s (h:=h) (H:=bmp 1 ((⟨H.f,H.k,[]⟩:AH).set ⟨0,H.k,0⟩ (.row 1 (cs [i64 h])))) hc0.hosts) ?_
 rintro _ H1 ⟨rfl,hs1⟩ hk1 _
 have hk1:H.k+1≤H1.k:=hk1
 have hb1:H1.f ⟨0,H.k,0⟩=some (.row 1 (cs [i64 h])):=by rw [hs1.at_ _ (fun _=>by show H.k<H.k+1; omega)]; simp only [go_sem]
 have hs1':=hs0.trans hs1
 have hc1:=hc.same hs1'
 have hst1:CStep F c o H o s H1:=CStep.in_ hc1 hs1'.fra
 simp only [go_sem]
 refine EI_i (fun d=>?_) (fun d=>?_)
 ·rw [if_pos (by simpa using d)]
  simp only [go_sem]
  exact ⟨o,hst1.mk'⟩
 rw [if_neg (by simpa using d)] at hn ⊢
 have hn:(failS s h).keepAll.next≤1000000000:=hn
 have hfn:(failS s h).next=s.next:=by unfold failS; split <;> exact goneAll_next
 have hn1:s.next≤1000000000:=by
  have:=(Ke.keepAll (failS s h)).next
  omega
 have hi:=ids_ok k.w (Few.of hn1)
 simp only [go_sem]
 refine CA_s [] (core_where_c E.e (s:=s) (o:=o) (boxes:=s.boxes) (p:=fun b=>b.host==h) (H:=⟨H1.f,H1.k,[]⟩) hc1.core hc1.boxes.map hi ?_) ?_
 ·intro b hb H' hs'
  have hs'':Same H1 H':=hs'.of_mk
  exact core_fail_1_c E.e.g ((hc1.same hs'').boxes.row b hb) (hs''.some (fun _=>by show H.k<H1.k; omega) hb1)
 rintro v H2 ⟨hv,hs2,hq⟩ _ _
 have hs2:Same H1 H2:=hs2.of_mk
 have hb2:=hs2.some (fun _=>by show H.k<H1.k; omega) hb1
 have hq : ∀ q,inSl v q→H.k≤q.i:=fun q h=>by have:=hq q h; have:H1.k≤q.i:=this; omega
 have hc2:=hc1.same hs2
 have hst2:=hst1.trans (CStep.in_ hc2 hs2.fra)
 have hpl:(s.boxes.filter fun b=>b.host==h)=s.pick fun b=>b.host==h:=rfl
 rw [hpl] at hv
 have hsrt:=pick_srt k fun b=>b.host==h
 have hsub:=pick_sub (s:=s) fun b=>b.host==h
 have hll:(s.pick fun b=>b.host==h).length<2147483648:=Nat.lt_of_le_of_lt (List.length_filter_le ..) hi.l
 have hga:goneAll s h=(s.pick fun b=>b.host==h).foldl (fun s b=>s.gone b) s:=rfl
 have kf:=k.failS h
 have kg:=k.goneAll h
 have hff:failS s h=if (goneAll s h).hThere h then { goneAll s h with hosts:=upn (goneAll s h).hosts h.toNat {} } else goneAll s h:=rfl
 generalize (s.pick fun b=>b.host==h)=l at hv hsrt hsub hll hga
 have hvl:lenV v=some (i64 (l.length:Int)):=by
  rcases hv with ⟨e,rfl⟩ | ⟨m,cc,g,_,_,rfl,_⟩
  ·have:l=[]:=by simpa using e
   rw [this]; rfl
  ·simp only [lenV,List.length_map]
 have hat:=fold_at (g:=fun s b=>s.gone b) (fun s b k hb=>k.gone hb) (fun s y b hb h=>gone_keep hb h) k hsrt hsub
 unfold lenV at hvl
 simp only [go_sem,hvl]
 refine C_loop (fun n l' H' => ∃ (j:Nat) (r:List (Nat × AV)),j+n=l.length∧CStep F c o H o ((l.take j).foldl (fun s b=>s.gone b) s) H'∧CStep F c o H2 o ((l.take j).foldl (fun s b=>s.gone b) s) H'∧H'.f ⟨0,H.k,0⟩=some (.row 1 (cs [i64 h])) ∧
   l'=(0,.ptr (nC c) 0)::(3,.ptr ⟨0,H.k,0⟩ 0)::(16,v)::(17,i64 (l.length:Int))::(18,i64 (j:Int))::r) l.length ⟨0,[],by omega,hst2.mk',(CStep.in_ hc2 (Fra.refl _ _)).mk',hb2,rfl⟩ ?_
 rintro n _ H3 ⟨j,r,hj,h3,h3',hb3,rfl⟩ _ _
 refine ⟨[],?_⟩
 obtain ⟨kj,hmj⟩:=hat j (by omega)
 simp only [go_sem]
 refine EI_i (fun d=>?_) (fun d=>?_)
 ·have d:j<l.length:=by simp at d; omega
  have hv3:=ids_stay hc hv hq h3'
  rcases hv3 with ⟨e,rfl⟩ | ⟨m,cc,g,m1,m2,rfl,m4,m5,m6⟩
  ·have:l=[]:=by simpa using e
   rw [this] at d; simp at d
  rw [List.length_map] at m4 m6
  have i0:(0:Int)≤(j:Int):=by omega
  have i1:(j:Int)<(l.length:Int):=by omega
  have i2:j<cc:=by omega
  have g5:g j=i64 (l[j]).id:=by rw [m6 j d,List.getD_eq_getElem?_getD,List.getElem?_map,List.getElem?_eq_getElem d]; rfl
  have wj:=wrapS (i:=j) (by omega)
  have hsuc:=foldl_take (fun s b=>CS.gone s b) s l j d
  have hb:=hmj j d (Nat.le_refl _)
  have hnj:((l.take j).foldl (fun s b=>s.gone b) s).next≤1000000000:=by have:=folds_next (g:=fun s b=>CS.gone s b) (fun s b=>(gone_boxes s b).2.1) (l.take j) s; omega
  generalize l[j]=b at hsuc hb g5
  generalize (l.take j).foldl (fun s b=>s.gone b) s=s3 at kj h3 h3' hsuc hb hnj
  have pmb:ptrMap (nBox c) (findB s3.boxes) [b.id]=some (.ptr (nBox c b.id) 0):=by
   show (findB s3.boxes b.id).map _=_
   rw [findB_mem (ids_ok kj.w (Few.of hnj)) hb]; rfl
  simp only [go_sem,List.length_map,i0,i1,i2,Int.toNat_natCast,Nat.mul_one,m5,g5,h3.at_.core,h3.at_.boxes.map,pmb]
  refine CA_s [] (core_gone_w E.e.g (H:=⟨H3.f,H3.k,[]⟩) kj.w (Few.of hnj) h3.at_.mk' hb) ?_
  rintro _ H4 ⟨hc4,_,hf4⟩ _ _
  have hf4:Fra (inCt c) H3 H4:=hf4.of_mk
  have h4:CStep F c o H3 o (s3.gone b) H4:=CStep.in_ hc4 hf4
  have hb4:H4.f ⟨0,H.k,0⟩=some (.row 1 (cs [i64 h])):=by
   rw [hf4.at_ _ (fun _=>by have:=h3.fra.k; have:=h3'.fra.k; have:=hs2.k; show H.k<H3.k; omega) (fun hS=>?_)]
   ·exact hb3
   ·have:(0:Nat) / 64=c+1:=hS
    omega
  simp only [go_sem,wj]
  refine ⟨n-1,_,rfl,by omega,j+1,[],by omega,?_,?_,hb4,rfl⟩
  ·rw [hsuc]; exact (h3.trans h4).mk'
  ·rw [hsuc]; exact (h3'.trans h4).mk'
 ·have d:j=l.length:=by simp at d; omega
  subst d
  rw [List.take_length,← hga] at h3 h3'
  simp only [go_sem,h3.at_.core,hb3]
  refine CA_s [] (host_Fail_c E.e.g (n:=nHosts c) tg_ne0 (goneAll s h) (h:=h) (H:=⟨H3.f,H3.k,[]⟩) h3.at_.hosts) ?_
  rintro _ H4 ⟨hh4,hf4⟩ _ _
  have hf4:Fra (At (nHosts c)) H3 H4:=hf4.of_mk
  have hc4:CoreAt F c o (failS s h) H4:=by
   have:=h3.at_.hosts' hf4 (fun n h=>by rw [h]) hh4
   rw [hff]
   split
   ·rename_i e; rw [if_pos e] at this; exact this
   ·rename_i e; rw [if_neg e] at this; exact this
  have h4:=h3.trans (CStep.in_ hc4 (hf4.mono fun n h=>in_at (by decide) rfl h))
  simp only [go_sem]
  refine CA_s [] (core_keepAll_c E (H:=⟨H4.f,H4.k,[]⟩) kf hn hc4.mk') ?_
  rintro _ H5 ⟨o5,h5⟩ _ _
  simp only [go_sem]
  exact ⟨o5,(h4.trans h5.of_mk).mk'⟩
end
end Go.Ab

namespace Go.Ab
open Go Gh
variable {P : Program} {F : Nums}
section
variable {c : Nat} {o o' : AV} {H A B : AH} {s s' s2 : CS}
theorem ups_ups {α:Type} {f:Int→α} {i:Int} {x y:α}:ups (ups f i x) i y=ups f i y:=by
 funext k; unfold ups; split <;> rfl
theorem CoreAt.fn1 {x y:Fnc} {f:Int} (h:CoreAt F c o s H) (hx:s.fns f=some x) (hh:y.h=x.h) (hr:y.r=x.r) {l:List Nm}:CoreAt F c o { s with fns:=ups s.fns f (some y) } ((⟨H.f,H.k,l⟩:AH).set (nFn c f) (.row 9 (cs (fnC c f y)))):=by
 have hrw:=h.fns.row f x hx
 have n8:nHis c f≠nFn c f:=fun e=>by have:=congrArg Nm.t e; simp [tg_inj] at this
 have n9:nRing c f≠nFn c f:=fun e=>by have:=congrArg Nm.t e; simp [tg_inj] at this
 have hff:Fra (At (nFn c f)) H ((⟨H.f,H.k,l⟩:AH).set (nFn c f) (.row 9 (cs (fnC c f y)))):=Fra.mk1.s1
 exact h.fns' (x:=ups s.fns f (some y)) hff (fun n h=>by rw [h]; exact .inr (.inl rfl)) (FnsAt.set h.fns (y:=y) hx (hff.mono fun n h=>.inl h) (by simp only [go_sem]) (by simp only [go_sem,n8]; rw [hh]; exact hrw.2.1) (by simp only [go_sem,n9]; rw [hr]; exact hrw.2.2))
def doneR (s:CS) (b:Box):CS:=if !(dnS s b).up b.host then (dnS s b).kill (doneB s b) else if b.pinned then dnS s b else if ((dnS s b).win b.fn).pre>0 then (dnD s b ((dnS s b).win b.fn)).kill (doneB s b) else (dnS s b).idle (doneB s b) (s.now+((dnS s b).win b.fn).stop)
theorem dn_fns {b:Box} {x:Fnc} (hx:s.fns b.fn=some x):(dnS s b).fns b.fn=some { x with last:=s.now }:=by
 have e1:(dnS s b).fns=ups s.fns b.fn ((s.fns b.fn).map fun x=>{ x with last:=s.now }):=by unfold dnS CS.ended CS.qEnd; split <;> rfl
 rw [e1]; unfold ups; rw [if_pos rfl,hx]; rfl
theorem dn_next {b:Box}:(dnS s b).next=s.next:=by unfold dnS CS.ended CS.qEnd; split <;> rfl
theorem dn_out {b:Box}:(dnS s b).out=s.out:=by unfold dnS CS.ended CS.qEnd; split <;> rfl
theorem done_warm (E:EnvK P F) (k:Ok s) (hn:s.next≤1000000000) {b:Box} (hb:b∈s.boxes) (h2:b.st=2) {x:Fnc} (hx:s.fns b.fn=some x) {Wn:Win} (hW:(dnS s b).win b.fn=Wn) {H6:AH} {i:Int} (hst6:CStep F c o H o (dnS s b) H6) (hb6w:H6.f ⟨0,i,0⟩=some (.row 3 (cs (winC Wn)))) {r:List (Nat × AV)} {K:AV→AH→Prop} {ex:Nat→Fr→AH→Prop} {rr:Fr→AH→Prop}
  (hK : ∀ o9 H9,CStep F c o H o9 ((dnD s b Wn).kill (doneB s b)) H9→K (i64 0) H9) :
  W P (.seq (.reg [0,5,7] 0 (r32_15 F)) (.seq (.reg [0,5] 0 (r32_16 F)) (.reg [] 0 (r32_17 F)))) ⟨RT P (.seq (.reg [4] 0 (r32_18 F)) .ret) ⟨endQ [.tmp 4] K,fun _ _ _=>False,endQ [.tmp 4] K⟩,ex,rr⟩
   ((0,.ptr (nC c) 0)::(5,.ptr (nBox c b.id) 0)::(6,.ptr (nFn c b.fn) 0)::(7,.ptr ⟨0,i,0⟩ 0)::r) H6 ⟨⟩:=by
 obtain ⟨w1,t1,o1,hmB,hnow⟩:=k.doneS hb h2
 obtain ⟨hbd1,hbd2,hbd3,hbd4,hbd5⟩:=done_bd k hb h2
 rw [hW] at hbd1 hbd2 hbd3 hbd4 hbd5
 have hxd:=dn_fns hx
 have hnd:(dnS s b).next≤1000000000:=by rw [dn_next]; exact hn
 have hod:(dnS s b).out.length<2147483648:=by rw [dn_out]; exact k.out hn
 have hdn:(dnS s b).now=s.now:=hnow
 have B1:(doneB s b).fn=b.fn:=rfl
 have hnw:=k.w.now
 have wa:IntKind.i64.wrap (s.now+Wn.stop)=s.now+Wn.stop:=by unfold topT maxTime at *; exact wrap64 (by omega) (by omega)
 have wb:IntKind.i64.wrap (s.now+Wn.pre)=s.now+Wn.pre:=by unfold topT maxTime at *; exact wrap64 (by omega) (by omega)
 have hc6:=hst6.at_
 have hcr6:=hc6.core
 have hb6:H6.f (nBox c b.id)=some (.row 8 (cs (boxC (doneB s b)))):=hc6.boxes.row _ hmB
 have hr6:=hc6.fns.row b.fn _ hxd
 obtain ⟨w8,t8,o8,hm8⟩:=k.done2 hb h2
 rw [hW] at w8 hm8
 have hset:(dnS s b).setFn b.fn (fun x=>{ x with til:=s.now+Wn.stop })={ (dnS s b) with fns:=ups (dnS s b).fns b.fn (some { x with last:=s.now,til:=s.now+Wn.stop }) }:=by
  unfold CS.setFn; rw [hxd]; rfl
 have hc7:CoreAt F c o ((dnS s b).setFn b.fn (fun x=>{ x with til:=s.now+Wn.stop })) ((⟨H6.f,H6.k,H6.sup⟩:AH).set (nFn c b.fn) (.row 9 (cs (fnC c b.fn { x with last:=s.now,til:=s.now+Wn.stop })))):=by
  rw [hset]; exact hc6.fn1 (y:={ x with last:=s.now,til:=s.now+Wn.stop }) hxd rfl rfl
 have wf7:WF ((dnS s b).setFn b.fn (fun x=>{ x with til:=s.now+Wn.stop })):=w1.setFn fun y hy=>⟨{ (w1.f b.fn y hy).2.1 with til:=hbd1 },rfl,rfl⟩
 have n6:nC c≠nFn c b.fn:=fun e=>by have:=congrArg Nm.t e; simp [tg_inj] at this
 have n7:nBox c b.id≠nFn c b.fn:=fun e=>by have:=congrArg Nm.t e; simp [tg_inj] at this
 have n8:(⟨0,i,0⟩:Nm)≠nFn c b.fn:=fun e=>tg_ne0 (congrArg Nm.t e).symm
 have hst7:=hst6.trans (CStep.in_ hc7 (Fra.mono (Fra.mk1.s1 (n:=nFn c b.fn)) fun n h=>in_at (by decide) rfl h))
 simp only [go_sem,hr6.1,hcr6,hb6,hb6w,hdn,wa,wb,n6,n7,n8,B1]
 refine CA_s [] (timer_Set_c E.e.g (c:=c) (H:=AH.set ⟨H6.f,H6.k,H6.sup⟩ (nFn c b.fn) (.row 9 (cs (fnC c b.fn { x with last:=s.now,til:=s.now+Wn.stop })))) (times_fin wf7 (Few.of hnd)) hc7.timers.tim) ?_
 rintro _ H8 ⟨ht8,hf8⟩ _ _
 have hc8:CoreAt F c o (dnD s b Wn) H8:=hc7.timX (x:=(dnS s b).ends) (y:=ups (dnS s b).boots b.fn (some (s.now+Wn.pre))) hf8 (by
  rw [timesMap_boots]; exact ht8)
 have hst8:=hst7.trans (CStep.in_ hc8 (hf8.mono fun n h=>ct_in n (tim_ct n h)))
 simp only [go_sem]
 refine CA_s [] (core_kill_w E.e.g (H:=⟨H8.f,H8.k,[]⟩) (b:=doneB s b) w8 (Few.of hnd) hod hc8.mk' hm8) ?_
 rintro _ H9 ⟨o9,h9⟩ _ _
 simp only [go_sem]
 refine RT_i ?_
 simp only [go_sem]
 exact hK o9 _ (hst8.trans h9.of_mk).mk'
theorem done_tail (E:EnvK P F) (k:Ok s) (hn:s.next≤1000000000) {b:Box} (hb:b∈s.boxes) (h2:b.st=2) {x:Fnc} (hx:s.fns b.fn=some x) {H4:AH} {i:Int} (hst4:CStep F c o H o (dnS s b) H4) (hi:H.k≤i∧i<H4.k) (hb4w:H4.f ⟨0,i,0⟩=some (.row 3 (cs (winC ((dnS s b).win b.fn))))) {r:List (Nat × AV)} {K:AV→AH→Prop}
  (hK : ∀ o9 H9,CStep F c o H o9 (doneR s b) H9→K (i64 0) H9) :
  RT P (c_core_done F).ac.tl.tl.tl.tl.tl.tl.tl.tl ⟨endQ [.tmp 4] K,fun _ _ _=>False,endQ [.tmp 4] K⟩
   (fr ((0,.ptr (nC c) 0)::(5,.ptr (nBox c b.id) 0)::(6,.ptr (nFn c b.fn) 0)::(7,.ptr ⟨0,i,0⟩ 0)::r)) H4:=by
 simp only [c_core_done,AC.tl_seq]
 refine RT_i ?_
 refine W_cut ?_
 refine W_blk ?_
 obtain ⟨w1,t1,o1,hmB,hnow⟩:=k.doneS hb h2
 obtain ⟨hbd1,hbd2,hbd3,hbd4,hbd5⟩:=done_bd k hb h2
 have hnd:(dnS s b).next≤1000000000:=by rw [dn_next]; exact hn
 have hod:(dnS s b).out.length<2147483648:=by rw [dn_out]; exact k.out hn
 have hdn:(dnS s b).now=s.now:=hnow
 have B2:(doneB s b).host=b.host:=rfl
 have B3:(doneB s b).pinned=b.pinned:=rfl
 have hR:doneR s b=if !(dnS s b).up b.host then (dnS s b).kill (doneB s b) else if b.pinned then dnS s b else if ((dnS s b).win b.fn).pre>0 then (dnD s b ((dnS s b).win b.fn)).kill (doneB s b) else (dnS s b).idle (doneB s b) (s.now+((dnS s b).win b.fn).stop):=rfl
 generalize doneR s b=R at hK hR
 generalize hW:(dnS s b).win b.fn=Wn at hbd1 hbd2 hbd3 hbd4 hbd5 hb4w hR
 have hc4:=hst4.at_
 have hcr4:=hc4.core
 have hb4:H4.f (nBox c b.id)=some (.row 8 (cs (boxC (doneB s b)))):=hc4.boxes.row _ hmB
 simp only [go_sem,hcr4,hb4,B2]
 refine CA_s [] (host_Up_c E.e.g (n:=nHosts c) tg_ne0 (dnS s b) (h:=b.host) (H:=H4) hc4.hosts) ?_
 rintro _ H6 ⟨rfl,hs6⟩ hk6 _
 have hb6w:H6.f ⟨0,i,0⟩=some (.row 3 (cs (winC Wn))):=hs6.some (fun _=>hi.2) hb4w
 have hc6:=hc4.same hs6
 have hst6:=hst4.trans (CStep.in_ hc6 hs6.fra)
 have hcr6:=hc6.core
 have hb6:H6.f (nBox c b.id)=some (.row 8 (cs (boxC (doneB s b)))):=hc6.boxes.row _ hmB
 simp only [go_sem]
 refine EI_i (fun d=>?_) (fun d=>?_)
 ·rw [if_pos (by simpa using d)] at hR
  subst hR
  simp only [go_sem]
  refine CA_s [] (core_kill_w E.e.g (H:=⟨H6.f,H6.k,[]⟩) (b:=doneB s b) w1 (Few.of hnd) hod hc6.mk' hmB) ?_
  rintro _ H7 ⟨o7,h7⟩ _ _
  simp only [go_sem]
  refine RT_i ?_
  simp only [go_sem]
  exact hK o7 _ (hst6.trans h7.of_mk).mk'
 rw [if_neg (by simpa using d)] at hR
 simp only [go_sem,hb6,B3]
 refine EI_i (fun d2=>?_) (fun d2=>?_)
 ·rw [if_pos d2] at hR
  subst hR
  simp only [go_sem]
  refine RT_i ?_
  simp only [go_sem]
  exact hK o _ hst6.mk'
 rw [if_neg (by simp [d2])] at hR
 simp only [go_sem,hb6w]
 refine EI_i (fun d3=>?_) (fun d3=>?_)
 ·have d3:Wn.pre>0:=by simpa using d3
  rw [if_pos d3] at hR
  subst hR
  exact done_warm E k hn hb h2 hx hW (H6:=⟨H6.f,H6.k,[]⟩) hst6.mk' hb6w hK
 ·have d3 : ¬ Wn.pre>0:=by simpa using d3
  rw [if_neg d3] at hR
  subst hR
  have hnw:=k.w.now
  have wa:IntKind.i64.wrap (s.now+Wn.stop)=s.now+Wn.stop:=by unfold topT maxTime at *; exact wrap64 (by omega) (by omega)
  simp only [go_sem,hcr6,hb6w,hdn,wa]
  refine CA_s [] (core_idle_c E.e.g (H:=⟨H6.f,H6.k,[]⟩) (b:=doneB s b) w1 (Few.of hnd) hod hc6.mk' hmB (stop:=s.now+Wn.stop)) ?_
  rintro _ H7 ⟨o7,h7⟩ _ _
  simp only [go_sem]
  refine RT_i ?_
  simp only [go_sem]
  exact hK o7 _ (hst6.trans h7.of_mk).mk'
theorem core_done_c (E:EnvK P F) (k:Ok s) (hn:s.next≤1000000000) (hc:CoreAt F c o s H) {id:Int} :
  ACalls P F.core_done [.ptr (nC c) 0,i64 id] H (fun v H'=>v=i64 (s.done id).2 ∧ ∃ o',CStep F c o H o' (s.done id).1 H'):=by
 refine fn_rule E.e.g.mixed E.e.g.core_done rfl [] (fun hcl=>?_)
 have hcr:=hc.core
 have hm:=hc.boxes.map
 have hpm:=find_ptr (s:=s) (id:=id) c
 have heq:s.done id=match s.find id with
  | none=>(s,2)
  | some b=>if b.st≠2 then (s,3) else (doneR s b,0):=done_eq
 rw [heq]
 cases hf:s.find id with
 | none =>
  rw [hf] at hpm
  simp only [go_sem,hcr,hm,hpm]
  exact ⟨o,(CStep.in_ hc (Fra.refl _ _)).mk'⟩
 | some b =>
 rw [hf] at hpm
 obtain ⟨hb,rfl⟩:=find_some hf
 have hr:=hc.boxes.row b hb
 simp only [go_sem,hcr,hm,hpm]
 refine CA_s [] (box_Done_c E.e.g (b:=b) (now:=s.now) (H:=⟨H.f,H.k,[]⟩) hr) ?_
 rintro _ H1 ⟨rfl,h1⟩ _ _
 simp only [go_sem]
 by_cases h2:b.st=2
 rotate_left
 ·rw [if_neg h2] at h1
  have e:(b.st==2)=false:=by simpa using h2
  have h1:Same H H1:=h1.of_mk
  rw [if_pos h2]
  simp only [go_sem,e,Bool.not_false]
  exact ⟨o,(CStep.in_ (hc.same h1) h1.fra).mk'⟩
 rw [if_pos h2] at h1
 have e:(b.st==2)=true:=by simpa using h2
 obtain ⟨hb1,hf1⟩:=h1
 have hf1:Fra (At (nBox c b.id)) H H1:=hf1.of_mk
 have hb1:H1.f (nBox c b.id)=some (.row 8 (cs (boxC (doneB s b)))):=hb1
 rw [if_neg (by simpa using h2)]
 obtain ⟨w1,t1,o1,hmB,hnow⟩:=k.doneS hb h2
 obtain ⟨x,hx,_⟩:=(k.w.b.2 b hb).fn
 have hbb:=k.w.b.2 b hb
 have hsw:WF (s.setBox (doneB s b)):=k.w.setBox (b:=doneB s b) hb rfl rfl rfl rfl (by unfold doneB; simp) ⟨k.w.now.1,Int.le_refl _⟩
 have hc1:CoreAt F c o (s.setBox (doneB s b)) H1:=hc.box (b:=doneB s b) hbb.id.2 hf1 hb1
 have hcr1:=hc1.core
 refine EI_i (fun d=>by rw [e] at d; cases d) (fun _=>?_)
 refine V_cut ?_
 simp only [go_sem,hcr1,hb1]
 refine CA_s [] (quota_End_c E.e.g (n:=nQ c) tg_ne0 (s.setBox (doneB s b)) (f:=b.fn) (H:=⟨H1.f,H1.k,[]⟩) hc1.q hsw.q) ?_
 rintro _ H2 ⟨hq2,hf2⟩ _ _
 have hf2:Fra (At (nQ c)) H1 H2:=hf2.of_mk
 have hc2:=hc1.q' hf2 (fun n h=>by rw [h]) hq2
 have hcr2:=hc2.core
 have hb2:H2.f (nBox c b.id)=some (.row 8 (cs (boxC (doneB s b)))):=hc2.boxes.row (doneB s b) (setBox_self k.w hb rfl)
 have hm2:H2.f (nFns c)=some (.mp 1 (ptrMap (nFn c) s.fns)):=hc2.fns.map
 have hr2:=hc2.fns.row b.fn x hx
 have pm:=fns_ptr (c:=c) hx
 have n6:nC c≠nFn c b.fn:=fun e=>by have:=congrArg Nm.t e; simp [tg_inj] at this
 have n7:nBox c b.id≠nFn c b.fn:=fun e=>by have:=congrArg Nm.t e; simp [tg_inj] at this
 have hc3:=hc2.fn1 (y:={ x with last:=s.now }) hx rfl rfl (l:=[])
 have hst3:CStep F c o H o (dnS s b) ((⟨H2.f,H2.k,[]⟩:AH).set (nFn c b.fn) (.row 9 (cs (fnC c b.fn { x with last:=s.now })))):=by
  have e1:dnS s b={ ({ (s.setBox (doneB s b)) with acc:=((s.setBox (doneB s b)).qEnd b.fn).acc,qf:=((s.setBox (doneB s b)).qEnd b.fn).qf }:CS) with fns:=ups s.fns b.fn (some { x with last:=s.now }) }:=by
   unfold dnS CS.ended CS.setFn
   rw [qEnd_eq]
   show ({ (s.setBox (doneB s b)) with acc:=((s.setBox (doneB s b)).qEnd b.fn).acc,qf:=((s.setBox (doneB s b)).qEnd b.fn).qf,fns:=ups s.fns b.fn ((s.fns b.fn).map _) }:CS)=_
   rw [hx]; rfl
  rw [e1]
  refine CStep.in_ hc3 ?_
  exact (hf1.mono fun n h=>in_at (by decide) rfl h).trans ((hf2.mono fun n h=>in_at (by decide) rfl h).trans (Fra.mono (Fra.mk1.s1 (n:=nFn c b.fn)) fun n h=>in_at (by decide) rfl h))
 have B1:(doneB s b).fn=b.fn:=rfl
 have hwin:=core_window_c E.e.g w1 hst3.at_ (dn_fns hx)
 have hR:endQ [Rs.tmp 4] (fun v H'=>v=i64 0 ∧ ∃ o',CStep F c o H o' (doneR s b) H')=endQ [Rs.tmp 4] (fun v H'=>v=i64 0 ∧ ∃ o',CStep F c o H o' (doneR s b) H'):=rfl
 simp only [go_sem]
 refine RT_i ?_
 refine W_cut ?_
 simp only [go_sem,hcr2,hb2,hm2,pm,B1]
 refine RT_i ?_
 refine W_cut ?_
 simp only [go_sem,hcr2,hr2.1,n6,n7]
 refine RT_i ?_
 refine W_cut ?_
 have hb3:=hst3.at_.boxes.row _ hmB
 have hb3:(AH.set ⟨H2.f,H2.k,[]⟩ (nFn c b.fn) (.row 9 (cs (fnC c b.fn { x with last:=s.now })))).f (nBox c b.id)=some (.row 8 (cs (boxC (doneB s b)))):=hb3
 simp only [go_sem,n7] at hb3
 simp only [go_sem,hb2,n6,n7,B1]
 refine CA_s [] hwin ?_
 rintro _ H4 ⟨rfl,hs4⟩ hk4 _
 have hc4:=hst3.at_.same hs4
 have hst4:=hst3.trans (CStep.in_ hc4 hs4.fra)
 have hs5:Same H4 (bmp 1 ((⟨H4.f,H4.k,[]⟩:AH).set ⟨0,H4.k,0⟩ (.row 3 (cs (winC ((dnS s b).win b.fn)))))):=(Same.mk1.tmp).bmp
 have hst5:=hst4.trans (CStep.in_ (hc4.same hs5) hs5.fra)
 simp only [go_sem]
 refine done_tail E k hn hb h2 hx hst5 ⟨hst4.fra.k,by show H4.k<H4.k+1; omega⟩ (by simp only [go_sem]) ?_
 intro o9 H9 h9
 exact ⟨rfl,o9,h9⟩
end
end Go.Ab

namespace Go.Ab
open Go Gh
variable {P : Program} {F : Nums}
section
variable {c : Nat} {o o' : AV} {H A B : AH} {s s' s2 : CS}
theorem TokAt.set {c:Nat} {tok:Int→Option Bkt} {H H':AH} (h:TokAt c tok H) {a:Int} {x y:Bkt} (hx:tok a=some x) (hf:Fra (At (nBkt c a)) H H') (h1:H'.f (nBkt c a)=some (.row 3 (cs (bktC y)))):TokAt c (ups tok a (some y)) H':=by
 have oth : ∀ n:Nm,n.t≠0→(n.t≠tg c 4∨n.i≠a)→H'.f n=H.f n:=fun n h0 hn=>hf.at_ n (old_of h0) (fun e=>by
  subst e
  rcases hn with hn | hn
  ·exact hn rfl
  ·exact hn rfl)
 refine ⟨?_,fun b z hb=>?_,fun b hb=>?_⟩
 ·rw [ptrMap_ups hx,oth _ tg_ne0 (.inl (by simp [tg_inj]))]; exact h.map
 ·unfold ups at hb
  by_cases e:b=a
  ·subst e
   simp only [if_true,Option.some.injEq] at hb
   subst hb; exact h1
  ·simp only [e,if_false] at hb
   rw [oth _ tg_ne0 (.inr e)]; exact h.row b z hb
 ·unfold ups at hb
  by_cases e:b=a
  ·simp [e] at hb
  ·simp only [e,if_false] at hb
   rw [oth _ tg_ne0 (.inr e)]; exact h.fresh b hb
theorem call_eq (f:Int):s.call f=match s.ask f with
 | none=>(s,⟨1,0,0,2⟩)
 | some why=>if why=1 then (s,⟨4,0,1,0⟩) else if why=2 then (s,⟨4,0,2,0⟩) else
  match s.freeBox f with
  | some b=>(s.begin f b,⟨2,b.id,0,0⟩)
  | none=>match s.fns f with
   | none=>(s,⟨0,0,0,0⟩)
   | some x=>match s.tok x.account with
    | none=>(s,⟨0,0,0,0⟩)
    | some t=>if t.tokens=0 then (s,⟨4,0,3,0⟩) else
     match (s.room x.mem).2 with
     | none=>(s,⟨4,0,4,0⟩)
     | some h=>(((coldS s x t).start f h).1.begin f ((coldS s x t).start f h).2,⟨3,s.next,0,0⟩):=by
 unfold CS.call
 cases s.ask f with
 | none=>rfl
 | some w =>
  simp only
  split
  ·rfl
  ·split
   ·rfl
   ·cases s.freeBox f with
    | some b=>rfl
    | none =>
     simp only
     cases s.fns f with
     | none=>rfl
     | some x =>
      simp only
      cases s.tok x.account with
      | none=>rfl
      | some t =>
       simp only
       split
       ·rfl
       ·have hnx:(s.room x.mem).1.next=s.next:=by
         have ev : ∀ h m n (s:CS),(s.evict h m n).next=s.next:=by
          intro h m n
          induction n with
          | zero=>intro s; rfl
          | succ n ih =>
           intro s
           simp only [CS.evict]
           split
           ·split
            ·rfl
            ·split
             ·rfl
             ·rw [ih,(kill_boxes _ _).2.1]
           ·rfl
         unfold CS.room
         split
         ·rfl
         ·split
          ·rfl
          ·exact ev _ _ _ _
        cases hr:s.room x.mem with
        | mk s1 o =>
         rw [hr] at hnx
         cases o with
         | none=>rfl
         | some h =>
          simp only at hnx ⊢
          unfold coldS
          rw [hr]
          show _=(_,(⟨3,s.next,0,0⟩:Ans))
          rw [← hnx]
          rfl
theorem CoreAt.tset {i q:Int} {ob:AO} {l:List Nm} (h:CoreAt F c o s H) (hne : ¬ isOut o ⟨0,i,q⟩):CoreAt F c o s ((⟨H.f,H.k,l⟩:AH).set ⟨0,i,q⟩ ob):=by
 have k : ∀ j,∀ n:Nm,n.t=tg c j→((⟨H.f,H.k,l⟩:AH).set ⟨0,i,q⟩ ob).f n=H.f n:=fun j n hn=>by
  have:n≠⟨0,i,q⟩:=fun e=>by rw [e] at hn; exact tg_ne0' hn
  simp only [go_sem,this]
 exact ⟨by rw [k 1 _ rfl]; exact h.core,by unfold QAt; rw [k 2 _ rfl]; exact h.q,
  h.tok.congr fun n hn=>by rcases hn with e | e <;> exact k _ n e,
  h.fns.congr fun n hn=>by rcases hn with e | e | e | e <;> exact k _ n e,
  by unfold HostsAt; rw [k 9 _ rfl]; exact h.hosts,
  h.caches.congr fun n hn=>by rcases hn with e | e | e | e | e <;> exact k _ n e,
  h.boxes.congr fun n hn=>by rcases hn with e | e <;> exact k _ n e,
  by unfold AheadAt; rw [k 17 _ rfl]; exact h.ahead,
  h.timers.congr fun n hn=>by rcases hn with e | e | e | e <;> exact k _ n e,
  h.out.congr (Int.le_refl _) fun n hn=>by
   have:n≠⟨0,i,q⟩:=fun e=>hne (e ▸ hn)
   simp only [go_sem,this]⟩
theorem noOut {H0 H1 H':AH} {i q:Int} {s0:CS} (hc:CoreAt F c o s0 H0) (h1:CStep F c o H1 o' s' H') (hk:H0.k≤i) (hi:i<H1.k) : ¬ isOut o' ⟨0,i,q⟩:=fun hn=>by
 rcases h1.out _ hn with h2 | ⟨_,h2⟩
 ·rcases hc.out with ⟨_,e⟩ | ⟨_,m,_,_,m1,e,_⟩
  ·obtain ⟨_,e'⟩:=h2; rw [e] at e'; cases e'
  ·obtain ⟨_,e'⟩:=h2; rw [e] at e'; cases e'
   have:i<H0.k:=m1
   omega
 ·have:H1.k≤i:=h2
  omega
theorem CStep.tset {H1S:CS} {H0 H1 H':AH} {i q:Int} {ob:AO} {l:List Nm} {s0:CS} (hc:CoreAt F c o s0 H0) (h0:CStep F c o H0 o H1S H1) (h1:CStep F c o H1 o' s' H') (hk:H0.k≤i) (hi:i<H1.k):CStep F c o H0 o' s' ((⟨H'.f,H'.k,l⟩:AH).set ⟨0,i,q⟩ ob):=by
 have h:=h0.trans h1
 refine ⟨h.at_.tset (noOut hc h1 hk hi),?_,h.out⟩
 exact Fra.set h.fra.mk' (.inr fun ho=>by have h2:i<H0.k:=ho rfl; omega)
theorem call_cold (E:EnvK P F) (k:Ok s) {f:Int} {x:Fnc} {t:Bkt} (hn:s.next<1000000000) {H1 H2:AH} {i:Int} (hc:CoreAt F c o s H) (h1:CStep F c o H o s H1) (hki:H.k≤i∧i<H1.k) (h2:CStep F c o H1 o s H2)
  (hb1:H1.f ⟨0,i,0⟩=some (.row 4 (cs [i64 0,i64 0,i64 0,i64 0]))) (ha:s.ask f=some 0) (hx:s.fns f=some x) (ht:s.tok x.account=some t) {r:List (Nat × AV)} {K:AV→AH→Prop}
  (hK0:t.tokens=0 → ∀ H',CStep F c o H o s H'→K (.agg (ansC ⟨4,0,3,0⟩)) H')
  (hK1:t.tokens≠0→(s.room x.mem).2=none → ∀ o' H',CStep F c o H o' s H'→K (.agg (ansC ⟨4,0,4,0⟩)) H')
  (hK2:t.tokens≠0 → ∀ h,(s.room x.mem).2=some h → ∀ o' H',CStep F c o H o' (((coldS s x t).start f h).1.begin f ((coldS s x t).start f h).2) H'→K (.agg (ansC ⟨3,s.next,0,0⟩)) H') :
  RT P (c_core_call F).ac.tl.tl.tl.tl.tl.tl ⟨endQ [.cells 4 4] K,fun _ _ _=>False,endQ [.cells 4 4] K⟩
   (fr ((0,.ptr (nC c) 0)::(1,i64 f)::(4,.ptr ⟨0,i,0⟩ 0)::(7,.ptr (nFn c f) 0)::(9,.ptr (nBkt c x.account) 0)::r)) H2:=by
 simp only [c_core_call,AC.tl_seq]
 refine RT_i ?_
 have tm : ∀ {o' s' H'},CStep F c o H1 o' s' H'→H'.f ⟨0,i,0⟩=some (.row 4 (cs [i64 0,i64 0,i64 0,i64 0])):=fun h=>h.tmp hc.out hki.1 hki.2 hb1
 have hc2:=h2.at_
 have hbk:=hc2.tok.row _ t ht
 have hwt:=k.w.t _ t ht
 unfold WBkt at hwt
 simp only [go_sem]
 refine CA_s [] (bucket_Tokens_c E.e.g (b:=t) (H:=H2) hbk) ?_
 rintro _ H3 ⟨rfl,hs3⟩ _ _
 have h3:=h2.trans (CStep.in_ (hc2.same hs3) hs3.fra)
 simp only [go_sem]
 refine EI_i (fun d=>?_) (fun d=>?_)
 ·have d:t.tokens=0:=by simpa using d
  simp only [go_sem,tm h3]
  exact hK0 d _ (CStep.tset hc h1 h3 hki.1 hki.2)
 have d:t.tokens≠0:=by simpa using d
 have hr3:=h3.at_.fns.row f x hx
 simp only [go_sem,hr3.1]
 refine CA_s [] (core_room_c E.e (H:=⟨H3.f,H3.k,[]⟩) k (by omega) h3.at_.mk' (mem:=x.mem)) ?_
 rintro _ H4 ⟨⟨w,rfl,hwr⟩,o4,h4⟩ _ _
 have h4:=h3.trans h4.of_mk
 simp only [go_sem]
 cases hrr:(s.room x.mem).2 with
 | none =>
  simp only [go_sem,Option.isSome_none,tm h4]
  rw [room_none hrr] at h4
  exact hK1 d hrr o4 _ (CStep.tset hc h1 h4 hki.1 hki.2)
 | some h =>
  have:=hwr h hrr
  subst this
  obtain ⟨k2,k3,hm3,_⟩:=k.callCold ha hx ht d hrr
  have hke:=Ke.room s x.mem
  obtain ⟨y,hy,hye⟩:=hke.fn hx
  have hbk4:=h4.at_.tok.row x.account t (by rw [hke.tok]; exact ht)
  have hnr:(s.room x.mem).1.next=s.next:=by
   have e:=call_eq (s:=s) f
   have ev : ∀ h m n (s:CS),(s.evict h m n).next=s.next:=by
    intro h m n
    induction n with
    | zero=>intro s; rfl
    | succ n ih =>
     intro s
     simp only [CS.evict]
     split
     ·split
      ·rfl
      ·split
       ·rfl
       ·rw [ih,(kill_boxes _ _).2.1]
     ·rfl
   unfold CS.room
   split
   ·rfl
   ·split
    ·rfl
    ·exact ev _ _ _ _
  simp only [go_sem,Option.isSome_some]
  refine CA_s [] (bucket_Take_c E.e.g (b:=t) (H:=⟨H4.f,H4.k,[]⟩) hbk4 (by omega) (by omega)) ?_
  rintro _ H5 ⟨hb5,hf5⟩ _ _
  have hf5:Fra (At (nBkt c x.account)) H4 H5:=hf5.of_mk
  rw [if_neg d] at hb5
  have hc5:CoreAt F c o4 (coldS s x t) H5:=by
   refine h4.at_.tok' (x:=ups (s.room x.mem).1.tok x.account (some { t with tokens:=t.tokens-1 })) hf5 (fun n h=>by rw [h]; exact .inr rfl) ?_
   exact h4.at_.tok.set (by rw [hke.tok]; exact ht) hf5 hb5
  have h5:=h4.trans (CStep.in_ hc5 (hf5.mono fun n h=>in_at (by decide) rfl h))
  have hn5:(coldS s x t).next≤1000000000:=by show (s.room x.mem).1.next≤_; omega
  simp only [go_sem]
  refine CA_s [] (core_start_c E.e.g (H:=⟨H5.f,H5.k,[]⟩) (f:=f) (h:=w) k2.w (Few.of hn5) (k2.out hn5) hc5.mk' (x:=y) hy) ?_
  rintro _ H6 ⟨rfl,o6,h6⟩ _ _
  have h6:=h5.trans h6.of_mk
  obtain ⟨z,hz,_⟩:=(Ke.start (coldS s x t) f w).fn (show (coldS s x t).fns f=some y from hy)
  have hn6:((coldS s x t).start f w).1.next≤1000000000:=by
   have:((coldS s x t).start f w).1.next=(s.room x.mem).1.next+1:=rfl
   omega
  have hid:((coldS s x t).start f w).2.id=(coldS s x t).next:=rfl
  have hid2:(coldS s x t).next=s.next:=hnr
  have hbe:=core_begin_c E.e.g (H:=⟨H6.f,H6.k,[]⟩) k3.w (Few.of hn6) h6.at_.mk' hm3 (f:=f) (x:=z) hz
  rw [hid] at hbe
  simp only [go_sem]
  refine CA_s [] hbe ?_
  rintro _ H7 ⟨hc7,hf7⟩ _ _
  have hf7:Fra (inCt c) H6 H7:=hf7.of_mk
  have h7:=h6.trans (CStep.in_ hc7 hf7)
  have hbox:=hc7.boxes.row (beginB ((coldS s x t).start f w).1 ((coldS s x t).start f w).2) (by
   rw [begin_eq]
   exact setBox_self (s:=CS.take (CS.qBegin { ((coldS s x t).start f w).1.setFn f (beginF ((coldS s x t).start f w).1 f) with boots:=ups (((coldS s x t).start f w).1.setFn f (beginF ((coldS s x t).start f w).1 f)).boots f none } f) ((coldS s x t).start f w).2) (by
    have w1:WF (((coldS s x t).start f w).1.setFn f (beginF ((coldS s x t).start f w).1 f)):=k3.w.setFn fun x hx=>WFn.begin (k3.w.f f x hx).2.1 k3.w.now.2 f
    exact ((w1.unboot f).qBegin f).take _) (a:=((coldS s x t).start f w).2) (by
    have e9:(CS.qBegin { ((coldS s x t).start f w).1.setFn f (beginF ((coldS s x t).start f w).1 f) with boots:=ups (((coldS s x t).start f w).1.setFn f (beginF ((coldS s x t).start f w).1 f)).boots f none } f).boxes=((coldS s x t).start f w).1.boxes:=by rw [Gh.qBegin_eq]; rfl
    show ((coldS s x t).start f w).2∈(CS.qBegin _ f).boxes
    rw [e9]; exact hm3) beginB_same.1)
  rw [beginB_same.1,hid] at hbox
  have hbid:(beginB ((coldS s x t).start f w).1 ((coldS s x t).start f w).2).id=s.next:=by rw [beginB_same.1,hid,hid2]
  simp only [go_sem,hbox,hbid,tm h7]
  exact hK2 d w hrr o6 _ (CStep.tset hc h1 h7 hki.1 hki.2)
theorem core_call_c (E:EnvK P F) (k:Ok s) (hn:s.next<1000000000) (hc:CoreAt F c o s H) {f:Int} :
  ACalls P F.core_call [.ptr (nC c) 0,i64 f] H (fun v H'=>v=.agg (ansC (s.call f).2) ∧ ∃ o',CStep F c o H o' (s.call f).1 H'):=by
 refine fn_rule E.e.g.mixed E.e.g.core_call rfl [] (fun hcl=>?_)
 have hcr:=hc.core
 have n1:nC c≠⟨0,H.k,0⟩:=fun e=>tg_ne0 (congrArg Nm.t e)
 have hs1:Same H (bmp 1 ((⟨H.f,H.k,[]⟩:AH).set ⟨0,H.k,0⟩ (.row 4 (cs [i64 0,i64 0,i64 0,i64 0])))):=(Same.mk1.tmp).bmp
 have hc1:=hc.same hs1
 have h1:CStep F c o H o s (bmp 1 ((⟨H.f,H.k,[]⟩:AH).set ⟨0,H.k,0⟩ (.row 4 (cs [i64 0,i64 0,i64 0,i64 0])))):=CStep.in_ hc1 hs1.fra
 have hki:H.k≤H.k∧H.k<(bmp 1 ((⟨H.f,H.k,[]⟩:AH).set ⟨0,H.k,0⟩ (.row 4 (cs [i64 0,i64 0,i64 0,i64 0])))).k:=⟨Int.le_refl _,by show H.k<H.k+1; omega⟩
 have hb1:(bmp 1 ((⟨H.f,H.k,[]⟩:AH).set ⟨0,H.k,0⟩ (.row 4 (cs [i64 0,i64 0,i64 0,i64 0])))).f ⟨0,H.k,0⟩=some (.row 4 (cs [i64 0,i64 0,i64 0,i64 0])):=by simp only [go_sem]
 rw [call_eq]
 simp only [go_sem,hcr,n1]
 refine CA_s [] (quota_Ask_c E.e.g (n:=nQ c) tg_ne0 s (f:=f) hc1.q k.w.q) ?_
 generalize hH1:(bmp 1 ((⟨H.f,H.k,[]⟩:AH).set ⟨0,H.k,0⟩ (.row 4 (cs [i64 0,i64 0,i64 0,i64 0]))))=H1 at hs1 hc1 h1 hki hb1
 have tm : ∀ {o' s' H'},CStep F c o H1 o' s' H'→H'.f ⟨0,H.k,0⟩=some (.row 4 (cs [i64 0,i64 0,i64 0,i64 0])):=fun h=>h.tmp hc.out hki.1 hki.2 hb1
 rintro _ H2 ⟨rfl,hs2⟩ _ _
 have h2:CStep F c o H1 o s H2:=CStep.in_ (hc1.same hs2) hs2.fra
 unfold askV
 cases ha:s.ask f with
 | none =>
  simp only [go_sem,Option.isSome_none,Option.getD_none,tm h2]
  exact ⟨o,CStep.tset hc h1 h2 hki.1 hki.2⟩
 | some why =>
 have hw3:why=0∨why=1∨why=2:=by
  unfold CS.ask at ha
  split at ha
  ·cases ha
  ·simp only at ha
   split at ha
   ·simp at ha; omega
   ·split at ha
    ·simp at ha; omega
    ·simp at ha; omega
 rcases hw3 with rfl | rfl | rfl
 rotate_left
 ·simp only [go_sem,Option.isSome_some,Option.getD_some]
  refine EI_i (fun _=>?_) (fun d=>by simp at d)
  simp only [go_sem,tm h2]
  exact ⟨o,CStep.tset hc h1 h2 hki.1 hki.2⟩
 ·simp only [go_sem,Option.isSome_some,Option.getD_some]
  refine EI_i (fun d=>by simp at d) (fun _=>?_)
  simp only [go_sem]
  refine EI_i (fun _=>?_) (fun d=>by simp at d)
  simp only [go_sem,tm h2]
  rw [if_neg (by decide)]
  exact ⟨rfl,o,CStep.tset hc h1 h2 hki.1 hki.2⟩
 obtain ⟨x,hx⟩:=ask_fn k.w ha
 obtain ⟨t,ht⟩:=(k.w.f f x hx).2.2
 have hr2:=h2.at_.fns.row f x hx
 have pm:=fns_ptr (c:=c) hx
 have pt:ptrMap (nBkt c) s.tok [x.account]=some (.ptr (nBkt c x.account) 0):=by show (s.tok x.account).map _=_; rw [ht]; rfl
 simp only [go_sem,Option.isSome_some,Option.getD_some]
 refine EI_i (fun d=>by simp at d) (fun _=>?_)
 simp only [go_sem]
 refine EI_i (fun d=>by simp at d) (fun _=>?_)
 refine V_cut ?_
 simp only [go_sem,h2.at_.core,h2.at_.fns.map,pm]
 refine RT_i ?_
 refine W_cut ?_
 simp only [go_sem]
 refine CA_s [] (core_free_c E.e (H:=⟨H2.f,H2.k,[]⟩) k.w (Few.of (by omega)) h2.at_.mk') ?_
 rintro _ H3 ⟨rfl,hs3⟩ _ _
 have hs3:Same H2 H3:=hs3.of_mk
 have h3:=h2.trans (CStep.in_ (h2.at_.same hs3) hs3.fra)
 cases hfb:s.freeBox f with
 | some b =>
  obtain ⟨hb,hbf,hst⟩:=freeBox_mem hfb
  simp only [go_sem,boxP]
  refine CA_s [] (core_begin_c E.e.g (H:=⟨H3.f,H3.k,[]⟩) k.w (Few.of (by omega)) h3.at_.mk' hb (f:=f) (x:=x) hx) ?_
  rintro _ H4 ⟨hc4,hf4⟩ _ _
  have hf4:Fra (inCt c) H3 H4:=hf4.of_mk
  have h4:=h3.trans (CStep.in_ hc4 hf4)
  have hbox:=hc4.boxes.row (beginB s b) (by
   subst hbf
   rw [begin_form ha]
   exact List.mem_map.2 ⟨b,hb,by rw [if_pos beginB_same.1.symm]⟩)
  rw [beginB_same.1] at hbox
  have hbid:(beginB s b).id=b.id:=beginB_same.1
  simp only [go_sem,hbox,hbid,tm h4]
  exact ⟨rfl,o,CStep.tset hc h1 h4 hki.1 hki.2⟩
 | none =>
  have hr3:=h3.at_.fns.row f x hx
  simp only [go_sem,boxP]
  refine RT_i ?_
  refine W_cut ?_
  simp only [go_sem,h3.at_.core,hr3.1,h3.at_.tok.map,pt]
  refine call_cold E k hn hc h1 hki h3.mk' hb1 ha hx ht ?_ ?_ ?_
  ·intro h0 H' h'
   simp only [hx,ht]
   rw [if_pos h0]
   exact ⟨rfl,o,h'⟩
  ·intro h0 hr0 o' H' h'
   simp only [hx,ht]
   rw [if_neg h0]
   simp only [hr0]
   exact ⟨rfl,o',h'⟩
  ·intro h0 h hr0 o' H' h'
   simp only [hx,ht]
   rw [if_neg h0]
   simp only [hr0]
   exact ⟨rfl,o',h'⟩
end
end Go.Ab

namespace Gh
open CS
section
variable {s : CS}
theorem times_iff (w:WF s) {t k id:Int}:(t,k,id)∈s.times↔(k=0∧s.ends id=some t)∨(k=1∧s.boots id=some t):=by
 constructor
 ·intro h
  by_cases hk:k=0
  ·subst hk; exact .inl ⟨rfl,times_ends h⟩
  ·exact .inr (times_boots hk h)
 ·rintro (⟨rfl,h⟩ | ⟨rfl,h⟩)
  ·obtain ⟨_,b,hb,e⟩:=w.e id t h
   unfold CS.times
   refine List.mem_append.2 (.inl (List.mem_filterMap.2 ⟨b,hb,?_⟩))
   rw [e,h]; rfl
  ·obtain ⟨_,x,hx⟩:=w.o id t h
   have:=(w.f id x hx).1
   unfold CS.times
   refine List.mem_append.2 (.inr (List.mem_filterMap.2 ⟨id.toNat,List.mem_range.2 (by omega),?_⟩))
   rw [Int.toNat_of_nonneg this.1,h]; rfl
theorem due_none (w:WF s) (h1 : ∀ id t,s.ends id=some t→s.now<t) (h2 : ∀ id t,s.boots id=some t→s.now<t):s.due=none:=by
 unfold CS.due
 cases hb:best tLt s.times with
 | none=>rfl
 | some x =>
  obtain ⟨t,k,id⟩:=x
  have hm:=(times_iff w).1 (best_mem hb)
  simp only
  rw [if_neg]
  rcases hm with ⟨_,h⟩ | ⟨_,h⟩
  ·have:=h1 _ _ h; show ¬ t≤s.now; omega
  ·have:=h2 _ _ h; show ¬ t≤s.now; omega
theorem due_some (w:WF s) {x:Int × Int × Int} (hx:x∈s.times) (hn:x.1≤s.now) (hl : ∀ y∈s.times,tLt y x=false):s.due=some x:=by
 have hb:best tLt s.times=some x:=by
  refine best_of (fun a b c _ _ _ h1 h2=>Go.Ab.tmOrd.nt a b c h1 h2) (fun a b _ _ h=>Go.Ab.tmOrd.asym h) hx hl (fun y hy h1 h2=>?_)
  obtain ⟨a1,a2,a3⟩:=y
  obtain ⟨b1,b2,b3⟩:=x
  unfold CS.tLt at h1 h2
  simp only [Bool.or_eq_false_iff,Bool.and_eq_false_iff,decide_eq_false_iff_not] at h1 h2
  simp only [Prod.mk.injEq]
  omega
 unfold CS.due
 rw [hb]
 simp only
 rw [if_pos hn]
def gE (ends:Int→Option Int) (b:Box):Int:=if (ends b.id).isSome then 1 else 0
def gB (boots:Int→Option Int) (i:Nat):Int:=if (boots (i:Int)).isSome then 1 else 0
def muS (s:CS):Int:=wsum (gE s.ends) s.boxes+sumN (gB s.boots) 64
theorem gE_nn {ends:Int→Option Int} {l:List Box} : ∀ b∈l,0≤gE ends b:=fun b _=>by unfold gE; split <;> omega
theorem gB_nn {boots:Int→Option Int} (i:Nat):0≤gB boots i:=by unfold gB; split <;> omega
theorem muS_nn:0≤muS s:=by
 have h1:=wsum_nn (g:=gE s.ends) (l:=s.boxes) gE_nn
 have h2:=sumN_nonneg (f:=gB s.boots) gB_nn 64
 unfold muS; omega
theorem muS_le:muS s≤s.boxes.length+64:=by
 have h1 : ∀ l:List Box,wsum (gE s.ends) l≤l.length:=by
  intro l
  induction l with
  | nil=>simp [wsum]
  | cons b r ih =>
   have:gE s.ends b≤1:=by unfold gE; split <;> omega
   simp only [wsum,List.length_cons]; omega
 have h2 : ∀ n,sumN (gB s.boots) n≤n:=by
  intro n
  induction n with
  | zero=>simp [sumN]
  | succ n ih =>
   have:gB s.boots n≤1:=by unfold gB; split <;> omega
   simp only [sumN]; omega
 have:=h1 s.boxes
 have:=h2 64
 unfold muS; omega
theorem wsum_congr {g g':Box→Int} {l:List Box} (h : ∀ b∈l,g b=g' b):wsum g l=wsum g' l:=by
 induction l with
 | nil=>rfl
 | cons b r ih =>
  simp only [wsum]
  rw [h b (List.mem_cons_self ..),ih fun y hy=>h y (List.mem_cons_of_mem _ hy)]
theorem sumN_congr {f g:Nat→Int} {n:Nat} (h : ∀ i,i<n→f i=g i):sumN f n=sumN g n:=by
 induction n with
 | zero=>rfl
 | succ n ih=>simp only [sumN]; rw [ih fun i hi=>h i (by omega),h n (by omega)]
theorem gB_ups {boots:Int→Option Int} {id:Int} (h0:0≤id):gB (ups boots id none)=upn (gB boots) id.toNat 0:=by
 funext i
 unfold upn
 by_cases e:i=id.toNat
 ·have e':(i:Int)=id:=by omega
  rw [if_pos e]
  unfold gB ups
  rw [show (if (i:Int)=id then none else boots i)=(none:Option Int) from if_pos e']; rfl
 ·have e' : ¬ (i:Int)=id:=by omega
  rw [if_neg e]
  unfold gB ups
  rw [show (if (i:Int)=id then none else boots i)=boots i from if_neg e']
theorem bootAhead_mu (k:Ok s) {f:Int} {x:Fnc} (hx:s.fns f=some x):muS (s.bootAhead f)=muS s:=by
 unfold CS.bootAhead
 split
 ·rfl
 ·simp only [hx]
  cases hf:s.fit x.mem with
  | none=>rfl
  | some h =>
   simp only
   have e : ∀ m,(s.hTake h m).boxes=s.boxes∧(s.hTake h m).ends=s.ends∧(s.hTake h m).boots=s.boots:=by intro m; unfold CS.hTake; split <;> exact ⟨rfl,rfl,rfl⟩
   have e1:(s.start f h).1.boxes=s.boxes++[(s.start f h).2]:=by
    show (s.hTake h (s.memOf f)).boxes++_=_
    rw [(e _).1]; rfl
   have e2:(s.start f h).1.ends=s.ends:=(e _).2.1
   have e3:(s.start f h).1.boots=s.boots:=(e _).2.2
   show wsum (gE (s.start f h).1.ends) (s.start f h).1.boxes+sumN (gB (s.start f h).1.boots) 64=muS s
   rw [e1,e2,e3,wsum_app]
   have:gE s.ends (s.start f h).2=0:=by
    unfold gE
    have:s.ends (s.start f h).2.id=none:=by
     cases hn:s.ends (s.start f h).2.id with
     | none=>rfl
     | some v =>
      obtain ⟨_,b,hb,e⟩:=k.w.e _ v hn
      have:=(k.w.b.2 b hb).id.2
      have e9:(s.start f h).2.id=s.next:=rfl
      omega
    rw [this]; rfl
   unfold muS; omega
theorem fire1_mu (k:Ok s) {s1:CS} (h:fire1 s=some s1):muS s1<muS s:=by
 unfold Gh.fire1 at h
 cases hd:s.due with
 | none=>rw [hd] at h; cases h
 | some x =>
  obtain ⟨t,kd,id⟩:=x
  rw [hd] at h
  simp only at h
  have hm:=due_mem hd
  split at h
  ·rename_i hk
   subst hk
   cases hf:s.find id with
   | none=>rw [hf] at h; cases h
   | some b =>
    rw [hf] at h
    simp only [Option.some.injEq] at h
    subst h
    obtain ⟨hb,rfl⟩:=find_some hf
    have he:=times_ends hm.1
    have hbx:=(kill_boxes { s with ends:=ups s.ends b.id none } b).1
    have hgw:=gone_worth { s with ends:=ups s.ends b.id none } b
    show wsum (gE (CS.gone { s with ends:=ups s.ends b.id none } b).ends) (CS.kill { s with ends:=ups s.ends b.id none } b).boxes+sumN (gB (CS.gone { s with ends:=ups s.ends b.id none } b).boots) 64<_
    rw [hbx,hgw.2.1,hgw.2.2.2.1]
    have h1:wsum (gE (ups (ups s.ends b.id none) b.id none)) (s.boxes.filter fun x=>x.id != b.id)=wsum (gE s.ends) (s.boxes.filter fun x=>x.id != b.id):=by
     refine wsum_congr fun y hy=>?_
     have:y.id≠b.id:=by simpa using (List.mem_filter.1 hy).2
     unfold gE ups
     rw [if_neg this,if_neg this]
    have h2:=wsum_filter (g:=gE s.ends) k.w.b.1 hb
    have h3:gE s.ends b=1:=by unfold gE; rw [he]; rfl
    show wsum (gE (ups (ups s.ends b.id none) b.id none)) (s.boxes.filter fun x=>x.id != b.id)+sumN (gB s.boots) 64<muS s
    rw [h1,h2]
    unfold muS; omega
  ·rename_i hk
   simp only [Option.some.injEq] at h
   subst h
   obtain ⟨_,hbo⟩:=times_boots hk hm.1
   obtain ⟨_,y,hy⟩:=k.w.o id t hbo
   have hid:=(k.w.f id y hy).1
   rw [bootAhead_mu (k.unboot id) (x:=y) hy]
   show wsum (gE s.ends) s.boxes+sumN (gB (ups s.boots id none)) 64<_
   rw [gB_ups hid.1,sumN_up (by omega)]
   have:gB s.boots id.toNat=1:=by unfold gB; rw [Int.toNat_of_nonneg hid.1,hbo]; rfl
   unfold muS; omega
theorem fire_stop (h:s.due=none) (n:Nat):s.fire n=s:=by
 cases n with
 | zero=>rfl
 | succ n=>unfold CS.fire; rw [h]
theorem fire_step {s1:CS} (h:fire1 s=some s1) (n:Nat):s.fire (n+1)=s1.fire n:=by rw [fire_eq,h]
theorem fire1_next {s1:CS} (h:fire1 s=some s1):s.next≤s1.next:=by
 unfold Gh.fire1 at h
 cases hd:s.due with
 | none=>rw [hd] at h; cases h
 | some x =>
  obtain ⟨t,kd,id⟩:=x
  rw [hd] at h
  simp only at h
  split at h
  ·cases hf:s.find id with
   | none=>rw [hf] at h; cases h
   | some b =>
    rw [hf] at h
    simp only [Option.some.injEq] at h
    subst h
    rw [(kill_boxes _ _).2.1]; exact Int.le_refl _
  ·simp only [Option.some.injEq] at h
   subst h
   unfold CS.bootAhead
   split
   ·exact Int.le_refl _
   ·split
    ·exact Int.le_refl _
    ·split
     ·exact Int.le_refl _
     ·rename_i h' _
      exact (Ke.start ({ s with boots:=ups s.boots id none }:CS) id h').next
theorem fire_next : ∀ n (s:CS),s.next≤(s.fire n).next:=by
 intro n
 induction n with
 | zero=>intro s; exact Int.le_refl _
 | succ n ih =>
  intro s
  rw [fire_eq]
  cases h:Gh.fire1 s with
  | none=>exact Int.le_refl _
  | some s1=>exact Int.le_trans (fire1_next h) (ih s1)
end
end Gh

namespace Go.Ab
open Go Gh
variable {P : Program} {F : Nums}
section
variable {c : Nat} {o o' : AV} {H H' A B : AH} {s s' s2 : CS}
theorem ERng_i {q:Nat} {n:Nm} {r:Nat} {m:List Int→Option AV} {f:AV→AH→Prop} {u:T (H,f)} (hm:H.f n=some (.mp r m)) (hok:H.nmOk q) (h : ∀ cc,f (.ptr (H.nm q) 0) ((H.set n (.mpi r m (H.nm q) [] cc)).set (H.nm q) (.itr n))):ERng H q (.map n) f u:=by
 refine ⟨hok,?_⟩
 simp only [hm]
 exact h
theorem ENxt_i {it n:Nm} {r cc:Nat} {m:List Int→Option AV} {seen:List (List Int)} {f:AV→AH→Prop} {u:T (H,f)} (h1:H.f it=some (.itr n)) (h2:H.f n=some (.mpi r m it seen cc))
  (ha : ∀ key v,m key=some v→key.length=r→key ∉ seen→0<cc→f (.tup [.bool true,.any,.any]) (H.set n (.mpi r m it (key::seen) (cc-1)))) (hb:(∀ key v,m key=some v→key∈seen)→f (.tup [.bool false]) (H.set n (.mp r m))):ENxt H (.ptr it 0) f u:=by
 unfold ENxt
 simp only [h1,h2]
 exact ⟨trivial,ha,hb⟩
def tkS (tok:Int→Option Bkt) (c:Nat) (n:Nm):Prop:=n=nTok c ∨ ∃ a b,tok a=some b∧n=nBkt c a
def tickB (b:Bkt):Bkt:={ b with tokens:=min (b.tokens+b.refill) b.size }
theorem CStep.bset {i q:Int} {ob:AO} {l:List Nm} {n:Nat} (h:CStep F c o H o' s' H') (hno : ¬ isOut o' ⟨0,i,q⟩) (hk:H.k≤i):CStep F c o H o' s' (bmp n ((⟨H'.f,H'.k,l⟩:AH).set ⟨0,i,q⟩ ob)) :=
 ⟨(h.at_.tset hno).same (Same.refl _).bmp,(Fra.set h.fra.mk' (.inr fun ho=>by have h5:i<H.k:=ho rfl; omega)).bmp,h.out⟩
abbrev tickR (F:Nums):AC:=.seq (.seq (.reg [0,4,42] 0 (r22_7 F)) (.cond (.s 42) (.exit 2) .skip)) (.seq (.reg [0,4,45] 0 (r22_8 F)) (.cond (.s 45) (.reg [0] 0 (r22_9 F)) (.reg [0] 0 (r22_10 F))))
def offS (s:CS) (x:Int × Int × Int):CS:=if x.2.1=0 then { s with ends:=ups s.ends x.2.2 none } else { s with boots:=ups s.boots x.2.2 none }
theorem tick_none {i:Int} {H3:AH} {Q:Qs} {r:List (Nat × AV)} (hQ : ∀ r',Q.ext 2 (fr ((0,.ptr (nC c) 0)::r')) ⟨H3.f,H3.k,H3.sup⟩):RT P (tickR F) Q (fr ((0,.ptr (nC c) 0)::(4,.ptr ⟨0,i,0⟩ 0)::(5,.bool false)::r)) H3:=by
 refine RT_i ?_
 simp only [go_sem,Bool.not_false]
 exact hQ _
theorem tick_some (E:EnvK P F) (k:Ok s) (hn : ∀ s1,fire1 s=some s1→s1.next≤1000000000) {x:Int × Int × Int} (hd:s.due=some x) {H3:AH} {i:Int} (hc:CoreAt F c o (offS s x) H3) (hb:H3.f ⟨0,i,0⟩=some (.row 2 (cs [i64 x.2.1,i64 x.2.2]))) {Q:Qs} {r:List (Nat × AV)}
  (hQ : ∀ s1 o2 H4,fire1 s=some s1→CStep F c o H3 o2 s1 H4→Q.nrm (fr [(0,.ptr (nC c) 0)]) H4) :
  RT P (tickR F) Q (fr ((0,.ptr (nC c) 0)::(4,.ptr ⟨0,i,0⟩ 0)::(5,.bool true)::r)) H3:=by
 refine RT_i ?_
 obtain ⟨t,kd,id⟩:=x
 have hm:=due_mem hd
 have hf1:fire1 s=if kd=0 then match s.find id with
    | none=>none
    | some b=>some (CS.kill { s with ends:=ups s.ends id none } b)
   else some (CS.bootAhead { s with boots:=ups s.boots id none } id):=by unfold fire1; rw [hd]; rfl
 by_cases hk:kd=0
 ·subst hk
  have he:=times_ends hm.1
  obtain ⟨_,b,hbm,rfl⟩:=k.w.e id t he
  have hfd:=k.w.find hbm
  rw [if_pos rfl,hfd] at hf1
  have hs1:=hn _ hf1
  have hnx:s.next≤1000000000:=by rw [(kill_boxes { s with ends:=ups s.ends b.id none } b).2.1] at hs1; exact hs1
  have hof:offS s (t,0,b.id)={ s with ends:=ups s.ends b.id none }:=by unfold offS; rw [if_pos rfl]
  rw [hof] at hc
  have pmb:ptrMap (nBox c) (findB s.boxes) [b.id]=some (.ptr (nBox c b.id) 0):=by
   show (findB s.boxes b.id).map _=_
   rw [findB_mem (ids_ok k.w (Few.of hnx)) hbm]; rfl
  have hmp:H3.f (nBoxes c)=_:=hc.boxes.map
  simp only [go_sem,Bool.not_true,hb]
  refine EI_i (fun _=>?_) (fun d=>by simp at d)
  simp only [go_sem,hb,hc.core,hmp,pmb]
  refine CA_s [] (core_kill_w E.e.g (s:={ s with ends:=ups s.ends b.id none }) (H:=H3) (b:=b) (k.w.unend b.id) (Few.of hnx) (k.out hnx) hc hbm) ?_
  rintro _ H4 ⟨o4,h4⟩ _ _
  simp only [go_sem]
  exact hQ _ o4 _ hf1 h4.mk'
 ·rw [if_neg hk] at hf1
  obtain ⟨rfl,hbo⟩:=times_boots hk hm.1
  obtain ⟨_,y,hy⟩:=k.w.o id t hbo
  have hs1:=hn _ hf1
  have hnx:s.next≤1000000000:=Int.le_trans (fire1_next hf1) hs1
  have hof:offS s (t,1,id)={ s with boots:=ups s.boots id none }:=by unfold offS; rw [if_neg (by simp)]
  rw [hof] at hc
  simp only [go_sem,Bool.not_true,hb]
  refine EI_i (fun d=>by simp at d) (fun _=>?_)
  simp only [go_sem,hb]
  refine CA_s [] (core_ahead_c E.e (s:={ s with boots:=ups s.boots id none }) (H:=H3) (f:=id) (x:=y) (k.w.unboot id) (Few.of hnx) (k.out hnx) hc hy) ?_
  rintro _ H4 ⟨o4,h4⟩ _ _
  simp only [go_sem]
  exact hQ _ o4 _ hf1 h4.mk'
theorem times_map {t kd id:Int}:(kd=0∧s.ends id=some t)∨(kd=1∧s.boots id=some t)↔timesMap s.ends s.boots [kd,id]=some (t,kd,id):=by
 unfold timesMap
 simp only
 by_cases h0:kd=0
 ·subst h0
  simp
 ·by_cases h1:kd=1
  ·subst h1; simp
  ·simp [h0,h1]
theorem timesMap_get {k:List Int} {y:Mk} (h:timesMap s.ends s.boots k=some y):k=tmK y:=by
 unfold timesMap at h
 unfold tmK
 split at h
 ·rename_i kd i
  split at h
  ·rename_i e
   rw [Option.map_eq_some_iff] at h
   obtain ⟨t,_,rfl⟩:=h
   rw [e]
  ·split at h
   ·rename_i e
    rw [Option.map_eq_some_iff] at h
    obtain ⟨t,_,rfl⟩:=h
    rw [e]
   ·cases h
 ·cases h
theorem next_due (k:Ok s) {x:Mk} (hx:timesMap s.ends s.boots (tmK x)=some x) (hn:x.1≤s.now) (hl : ∀ k y,timesMap s.ends s.boots k=some y→tmLt y x=false):s.due=some x∧tset (timesMap s.ends s.boots) (tmK x) none=timesMap (offS s x).ends (offS s x).boots:=by
 obtain ⟨t,kd,id⟩:=x
 have hx':=times_map.2 hx
 constructor
 ·refine due_some k.w ((times_iff k.w).2 hx') hn fun y hy=>?_
  obtain ⟨t',kd',id'⟩:=y
  exact hl _ _ (times_map.1 ((times_iff k.w).1 hy))
 ·unfold offS tmK
  rcases hx' with ⟨rfl,_⟩ | ⟨rfl,_⟩
  ·simp only [if_true]
   exact (timesMap_ends (x:=none)).symm
  ·rw [if_neg (by simp)]
   exact (timesMap_boots (x:=none)).symm
theorem next_none (k:Ok s) (h : ∀ k x,timesMap s.ends s.boots k=some x→s.now<x.1):s.due=none:=by
 refine due_none k.w (fun id t h'=>?_) (fun id t h'=>?_)
 ·exact h _ _ (times_map.1 (.inl ⟨rfl,h'⟩))
 ·exact h _ _ (times_map.1 (.inr ⟨rfl,h'⟩))
theorem tick_fire (E:EnvK P F) (k:Ok (tick0 s)) (hn:((tick0 s).fire (s.boxes.length+64)).keepAll.next≤1000000000) {H1:AH} (hc:CoreAt F c o s H) (h1:CStep F c o H o (tick0 s) H1) {r:List (Nat × AV)} {K:AV→AH→Prop}
  (hK : ∀ o' H',CStep F c o H o' ((tick0 s).fire (s.boxes.length+64)).keepAll H'→K (.tup []) H') :
  RT P (c_core_tick F).ac.tl.tl.tl ⟨endQ [] K,fun _ _ _=>False,endQ [] K⟩ (fr ((0,.ptr (nC c) 0)::r)) H1:=by
 simp only [c_core_tick,AC.tl_seq]
 refine RT_i ?_
 refine W_cut ?_
 refine W_blk ?_
 have hmu:=muS_le (s:=tick0 s)
 have hmn:=muS_nn (s:=tick0 s)
 refine C_loop (fun n l' H' => ∃ (s':CS) (o':AV) (m:Nat) (r:List (Nat × AV)),Ok s'∧muS s'=n∧n≤m∧(tick0 s).fire (s.boxes.length+64)=s'.fire m∧CStep F c o H o' s' H'∧l'=(0,.ptr (nC c) 0)::r) (muS (tick0 s)).toNat
  ⟨tick0 s,o,s.boxes.length+64,_,k,by omega,by have:(tick0 s).boxes.length=s.boxes.length:=rfl; omega,rfl,h1,rfl⟩ ?_
 rintro n _ H2 ⟨s',o',m,r,k',hmu',hnm,hfe,h2,rfl⟩ _ _
 refine ⟨[],?_⟩
 refine W_blk ?_
 refine W_cut ?_
 have hfn:s'.next≤(s'.fire m).next:=fire_next m s'
 have hkn:=(Ke.keepAll ((tick0 s).fire (s.boxes.length+64))).next
 have hsn:s'.next≤1000000000:=by rw [hfe] at hkn; rw [hfe] at hn; omega
 have hc2:=h2.at_
 have stop : ∀ (Q:Qs) (H3:AH) (i:Int) (r:List (Nat × AV)),s'.due=none→CStep F c o H o' s' H3→(∀ r',RT P (.reg [] 0 (r22_11 F)) ⟨endQ [] K,fun _ _ _=>False,endQ [] K⟩ (fr ((0,.ptr (nC c) 0)::r')) H3→Q.ext 2 (fr ((0,.ptr (nC c) 0)::r')) H3) →
   RT P (tickR F) Q (fr ((0,.ptr (nC c) 0)::(4,.ptr ⟨0,i,0⟩ 0)::(5,.bool false)::r)) H3:=by
  intro Q H3 i r hd h3 hQ
  refine tick_none fun r'=>hQ r' ?_
  have e:(tick0 s).fire (s.boxes.length+64)=s':=by rw [hfe,fire_stop hd]
  refine RT_i ?_
  simp only [go_sem]
  have hke:=core_keepAll_c E (H:=H3) k' (by rw [e] at hn; exact hn) h3.at_
  refine CA_s [] hke ?_
  rintro _ H4 ⟨o4,h4⟩ _ _
  simp only [go_sem]
  refine hK o4 _ ?_
  rw [e]
  exact (h3.trans h4).mk'
 have more : ∀ (Q:Qs) (x:Mk) (H3:AH) (i:Int) (r:List (Nat × AV)),s'.due=some x→CStep F c o H o' (offS s' x) H3→H3.f ⟨0,i,0⟩=some (.row 2 (cs [i64 x.2.1,i64 x.2.2])) →
   (∀ t H',(∃ n' l'',t=fr l''∧n'<n ∧ ∃ (s':CS) (o':AV) (m:Nat) (r:List (Nat × AV)),Ok s'∧muS s'=n'∧n'≤m∧(tick0 s).fire (s.boxes.length+64)=s'.fire m∧CStep F c o H o' s' H'∧l''=(0,.ptr (nC c) 0)::r)→Q.nrm t H') →
   RT P (tickR F) Q (fr ((0,.ptr (nC c) 0)::(4,.ptr ⟨0,i,0⟩ 0)::(5,.bool true)::r)) H3:=by
  intro Q x H3 i r hd h3 hb3 hQ
  have hm0 : ∀ s1,fire1 s'=some s1→0<m:=fun s1 h1=>by
   have h5:=fire1_mu k' h1
   have h6:=muS_nn (s:=s1)
   omega
  have hn1 : ∀ s1,fire1 s'=some s1→s1.next≤1000000000:=fun s1 h1=>by
   have:=hm0 s1 h1
   obtain ⟨m',rfl⟩ : ∃ m',m=m'+1:=⟨m-1,by omega⟩
   have h6:=fire_next m' s1
   rw [fire_step h1] at hfe
   rw [hfe] at hkn hn
   omega
  refine tick_some E k' hn1 hd h3.at_ hb3 ?_
  intro s1 o2 H4 hf1 h4
  have:=hm0 s1 hf1
  obtain ⟨m',rfl⟩ : ∃ m',m=m'+1:=⟨m-1,by omega⟩
  have h5:=fire1_mu k' hf1
  have h6:=muS_nn (s:=s1)
  exact hQ _ _ ⟨(muS s1).toNat,_,rfl,by omega,s1,o2,m',[],k'.fire1 hf1,by omega,by omega,by rw [hfe,fire_step hf1],h3.trans h4,rfl⟩
 have m1:nC c≠⟨0,H2.k,0⟩:=fun e=>tg_ne0 (congrArg Nm.t e)
 have hcr2:=hc2.core
 simp only [go_sem,hcr2,m1]
 refine ⟨?_,?_⟩
 ·have hs3:Same H2 (bmp 1 ((⟨H2.f,H2.k,[]⟩:AH).set ⟨0,H2.k,0⟩ (.row 2 (cs [i64 0,i64 0])))):=(Same.mk1.tmp).bmp
  have hc3:=hc2.same hs3
  refine CA_s [] (timer_Next_c E.e.g (c:=c) hc3.timers.tim (now:=s'.now)) ?_
  rintro _ H4 ⟨hf4,hcase⟩ _ _
  have hb4:H4.f ⟨0,H2.k,0⟩=some (.row 2 (cs [i64 0,i64 0])):=by
   rw [hf4.at_ _ (fun _=>by show H2.k<H2.k+1; omega) (fun hS=>by rcases timO_t hS with h | h | h <;> exact tg_ne0' h)]
   simp only [go_sem]
  have hno : ¬ isOut o' ⟨0,H2.k,0⟩:=fun hS=>by
   rcases h2.at_.out with ⟨_,e⟩ | ⟨_,m,_,_,m1,e,_⟩
   ·obtain ⟨_,e'⟩:=hS; rw [e] at e'; cases e'
   ·obtain ⟨_,e'⟩:=hS; rw [e] at e'; cases e'
    have:H2.k<H2.k:=m1
    omega
  have h3:=h2.trans (CStep.in_ hc3 hs3.fra)
  rcases hcase with ⟨rfl,ht4,hall⟩ | ⟨x,rfl,hx,hxn,hmin,ht4⟩
  ·have hc4:CoreAt F c o' s' H4:=hc3.timX (x:=s'.ends) (y:=s'.boots) hf4 ht4
   have h4:=h3.trans (CStep.in_ hc4 (hf4.mono fun n h=>ct_in n (tim_ct n h)))
   simp only [go_sem,hb4]
   refine stop _ _ _ _ (next_none k' hall) ?_ (fun r' h=>h)
   exact h4.bset hno h2.fra.k
  ·obtain ⟨hd,hts⟩:=next_due k' hx hxn hmin
   have hof:offS s' x={ s' with ends:=(offS s' x).ends,boots:=(offS s' x).boots }:=by unfold offS; split <;> rfl
   have hc4:CoreAt F c o' (offS s' x) H4:=by
    rw [hof]
    exact hc3.timX (x:=(offS s' x).ends) (y:=(offS s' x).boots) hf4 (by rw [← hts]; exact ht4)
   have h4:=h3.trans (CStep.in_ hc4 (hf4.mono fun n h=>ct_in n (tim_ct n h)))
   simp only [go_sem,hb4]
   refine more _ x _ _ _ hd ?_ (by simp only [go_sem]) (fun t H' h=>h)
   exact h4.bset hno h2.fra.k
 ·rw [show mvx 12 8 (r22_6 F)=[.mv 0 30 0,.ck 1 31 30,.f 2 32 31 9,.l 3 33 32,.mv 4 34 0,.ck 5 35 34,.f 6 36 35 0,.l 7 37 36,
   ⟨8,(some 38),none,[],.call (.c (.fn F.timer_Next [])) [.s 33,.s 37],1⟩,.i 12 4 (.alc 0 [.int .i64 0,.int .i64 0]),.mv 9 29 38,.e 10 39 29 0,.e 11 40 29 1,.j 13 (.stn (.s 4) (.s 39) 2),.mv 14 5 40] from rfl]
  simp only [go_sem,hcr2]
  have hs3:Same H2 (bmp 1 (⟨H2.f,H2.k,[]⟩:AH)):=Same.mk1.bmp
  have hc3:=hc2.same hs3
  refine CA_s [] (timer_Next_c E.e.g (c:=c) hc3.timers.tim (now:=s'.now)) ?_
  rintro _ H4 ⟨hf4,hcase⟩ hk4 _
  have hk4:H2.k+1≤H4.k:=hk4
  have hno : ¬ isOut o' ⟨0,H4.k,0⟩:=fun hS=>by
   rcases h2.at_.out with ⟨_,e⟩ | ⟨_,m,_,_,m1,e,_⟩
   ·obtain ⟨_,e'⟩:=hS; rw [e] at e'; cases e'
   ·obtain ⟨_,e'⟩:=hS; rw [e] at e'; cases e'
    have:H4.k<H2.k:=m1
    omega
  have hkk:H.k≤H4.k:=by have:=h2.fra.k; omega
  have h3:=h2.trans (CStep.in_ hc3 hs3.fra)
  rcases hcase with ⟨rfl,ht4,hall⟩ | ⟨x,rfl,hx,hxn,hmin,ht4⟩
  ·have hc4:CoreAt F c o' s' H4:=hc3.timX (x:=s'.ends) (y:=s'.boots) hf4 ht4
   have h4:=h3.trans (CStep.in_ hc4 (hf4.mono fun n h=>ct_in n (tim_ct n h)))
   simp only [go_sem]
   exact stop _ _ _ _ (next_none k' hall) (h4.bset hno hkk) (fun r' h=>h)
  ·obtain ⟨hd,hts⟩:=next_due k' hx hxn hmin
   have hof:offS s' x={ s' with ends:=(offS s' x).ends,boots:=(offS s' x).boots }:=by unfold offS; split <;> rfl
   have hc4:CoreAt F c o' (offS s' x) H4:=by
    rw [hof]
    exact hc3.timX (x:=(offS s' x).ends) (y:=(offS s' x).boots) hf4 (by rw [← hts]; exact ht4)
   have h4:=h3.trans (CStep.in_ hc4 (hf4.mono fun n h=>ct_in n (tim_ct n h)))
   simp only [go_sem]
   exact more _ x _ _ _ hd (h4.bset hno hkk) (by simp only [go_sem]) (fun t H' h=>h)
theorem core_tick_c (E:EnvK P F) (k:Ok s) (hn:s.tick.next≤1000000000) (hc:CoreAt F c o s H) :
  ACalls P F.core_tick [.ptr (nC c) 0] H (fun _ H' => ∃ o',CStep F c o H o' s.tick H'):=by
 refine fn_rule E.e.g.mixed E.e.g.core_tick rfl [] (fun hcl=>?_)
 have hcr:=hc.core
 rw [tick_eq] at hn ⊢
 refine W_cut0 ?_
 simp only [go_sem,hcr]
 refine EI_i (fun d=>?_) (fun d=>?_)
 ·have d:s.now=maxTime:=by
   have d:s.now=1099511627776:=by simpa using d
   unfold maxTime; omega
  rw [if_pos d]
  simp only [go_sem]
  exact ⟨o,(CStep.in_ hc (Fra.refl _ _)).mk'⟩
 have d:s.now≠maxTime:=by
  have d : ¬ s.now=1099511627776:=by simpa using d
  unfold maxTime; omega
 rw [if_neg d] at hn
 have hnw:=k.w.now
 have w1:IntKind.i64.wrap (s.now+1)=s.now+1:=by unfold maxTime at *; exact wrap64 (by omega) (by omega)
 simp only [go_sem]
 refine RT_i ?_
 refine W_cut ?_
 simp only [go_sem,hcr,w1]
 refine RT_i ?_
 refine W_cut ?_
 generalize hH1:((⟨H.f,H.k,[]⟩:AH).set (nC c) (.row 16 (cs [i64 (s.now+1),i64 s.next,.ptr (nQ c) 0,.map (nTok c),.map (nFns c),.ptr (nHosts c) 0,.map (nCaches c),.map (nBoxes c),.map (nAhead c),.ptr (nTim c) 0,o,i64 (s.ans 0),i64 (s.ans 1),i64 (s.ans 2),i64 (s.ans 3),i64 (s.ans 4)])))=H1
 have hc1:CoreAt F c o { s with now:=s.now+1,ans:=s.ans } H1:=by
  rw [← hH1]
  exact hc.row' Fra.mk1.s1 (by simp only [go_sem])
 have h1:CStep F c o H o { s with now:=s.now+1,ans:=s.ans } H1:=CStep.in_ hc1 (by rw [← hH1]; exact Fra.mono (Fra.mk1.s1 (n:=nC c)) fun n h=>in_at (by decide) rfl h)
 have hcr1:=hc1.core
 have hm1:H1.f (nTok c)=some (.mp 1 (ptrMap (nBkt c) s.tok)):=hc1.tok.map
 have hk1:H1.k=H.k:=by rw [← hH1]; rfl
 simp only [go_sem,hcr1]
 refine ERng_i hm1 (by rw [← hH1]; simp only [go_sem]) (fun cc=>?_)
 have hnm:H1.nm 0=⟨0,H1.k,0⟩:=by rw [← hH1]; simp only [go_sem]
 rw [hnm]
 have a1:nTok c≠⟨0,H1.k,0⟩:=fun e=>tg_ne0 (congrArg Nm.t e)
 have a2 : ∀ a,nBkt c a≠nTok c:=fun a e=>by have:=congrArg Nm.t e; simp [tg_inj] at this
 have a3 : ∀ a,nBkt c a≠⟨0,H1.k,0⟩:=fun a e=>tg_ne0 (congrArg Nm.t e)
 simp only [go_sem]
 refine C_loop (fun n l' H' => ∃ (seen:List (List Int)) (r:List (Nat × AV)),H'.f (nTok c)=some (.mpi 1 (ptrMap (nBkt c) s.tok) ⟨0,H1.k,0⟩ seen n)∧H'.f ⟨0,H1.k,0⟩=some (.itr (nTok c))∧H1.k<H'.k ∧
   (∀ a b,s.tok a=some b→H'.f (nBkt c a)=some (.row 3 (cs (bktC (if [a]∈seen then tickB b else b)))))∧Fra (tkS s.tok c) H1 H'∧l'=(0,.ptr (nC c) 0)::(22,.ptr ⟨0,H1.k,0⟩ 0)::r) cc ?_ ?_
 ·refine ⟨[],[],?_,?_,by show H1.k<H1.k+1; omega,fun a b hab=>?_,?_,rfl⟩
  ·simp only [go_sem,a1]
  ·simp only [go_sem]
  ·simp only [go_sem,a2,a3,List.not_mem_nil]
   exact hc1.tok.row a b hab
  ·exact Fra.bmp (Fra.set (Fra.set (Fra.refl _ _) (.inl (.inl rfl))) (.inr fun ho=>by have h5:H1.k<H1.k:=ho rfl; omega))
 rintro n _ H2 ⟨seen,r,q1,q2,q5,q3,q4,rfl⟩ _ _
 refine ⟨[],?_⟩
 simp only [go_sem]
 refine ENxt_i q2 q1 ?_ ?_
 ·intro key v hkv hlen hns hcc
  obtain ⟨a,rfl⟩ : ∃ a,key=[a]:=by
   match key,hlen with
   | [a],_=>exact ⟨a,rfl⟩
  have hkv':(s.tok a).map (fun _=>AV.ptr (nBkt c a) 0)=some v:=hkv
  cases hta:s.tok a with
  | none=>rw [hta] at hkv'; cases hkv'
  | some b =>
  rw [hta] at hkv'
  simp only [Option.map_some,Option.some.injEq] at hkv'
  subst hkv'
  have hb:=q3 a b hta
  rw [if_neg hns] at hb
  simp only [go_sem,a1.symm,q2,entV,hkv,a2]
  refine CA_s [] (bucket_Tick_c E.e.g (b:=b) (H:=AH.set ⟨H2.f,H2.k,[]⟩ (nTok c) (.mpi 1 (ptrMap (nBkt c) s.tok) ⟨0,H1.k,0⟩ ([a]::seen) (n-1))) (by simp only [go_sem,a2]; exact hb) (k.w.t a b hta)) ?_
  rintro _ H3 ⟨hb3,hf3⟩ _ _
  have hf23:Fra (tkS s.tok c) H2 (AH.set ⟨H2.f,H2.k,[]⟩ (nTok c) (.mpi 1 (ptrMap (nBkt c) s.tok) ⟨0,H1.k,0⟩ ([a]::seen) (n-1))):=Fra.set Fra.mk1 (.inl (.inl rfl))
  have hoth : ∀ m:Nm,m≠nBkt c a→(m.t=0→m.i<H2.k)→H3.f m=(AH.set ⟨H2.f,H2.k,[]⟩ (nTok c) (.mpi 1 (ptrMap (nBkt c) s.tok) ⟨0,H1.k,0⟩ ([a]::seen) (n-1))).f m:=fun m h1 h2=>hf3.at_ m h2 h1
  simp only [go_sem]
  refine ⟨n-1,_,rfl,by omega,[a]::seen,[],?_,?_,Int.lt_of_lt_of_le q5 hf3.k,fun a' b' hab=>?_,?_,rfl⟩
  ·rw [show (⟨H3.f,H3.k,[]⟩:AH).f (nTok c)=H3.f (nTok c) from rfl,hoth _ (a2 a).symm (fun h=>absurd h tg_ne0)]
   simp only [go_sem]
  ·rw [show (⟨H3.f,H3.k,[]⟩:AH).f ⟨0,H1.k,0⟩=H3.f ⟨0,H1.k,0⟩ from rfl,hoth _ (a3 a).symm (fun _=>q5)]
   simp only [go_sem,a1.symm]; exact q2
  ·by_cases e:a'=a
   ·subst e
    rw [hta] at hab
    simp only [Option.some.injEq] at hab
    subst hab
    rw [if_pos (List.mem_cons_self ..)]
    exact hb3
   ·have e1:nBkt c a'≠nBkt c a:=fun h=>e (by have:=congrArg Nm.i h; simpa using this)
    rw [show (⟨H3.f,H3.k,[]⟩:AH).f (nBkt c a')=H3.f (nBkt c a') from rfl,hoth _ e1 (fun h=>absurd h tg_ne0)]
    simp only [go_sem,a2]
    have e2:([a']∈[a]::seen)↔[a']∈seen:=by simp [e]
    rw [q3 a' b' hab]
    by_cases hm : [a']∈seen
    ·rw [if_pos hm,if_pos (e2.2 hm)]
    ·rw [if_neg hm,if_neg (fun h=>hm (e2.1 h))]
  ·exact (q4.trans (hf23.trans (hf3.mono fun m h=>.inr ⟨a,b,hta,h⟩))).mk'
 ·intro hall
  have hall' : ∀ a b,s.tok a=some b→[a]∈seen:=fun a b h=>hall [a] (.ptr (nBkt c a) 0) (by show (s.tok a).map _=_; rw [h]; rfl)
  have hf2:Fra (tkS s.tok c) H1 (AH.set ⟨H2.f,H2.k,[]⟩ (nTok c) (.mp 1 (ptrMap (nBkt c) s.tok))):=Fra.set q4.mk' (.inl (.inl rfl))
  have hpm:ptrMap (nBkt c) (tickTok s.tok)=ptrMap (nBkt c) s.tok:=by
   funext l
   unfold ptrMap tickTok
   split
   ·rw [Option.map_map]; rfl
   ·rfl
  have hc2:CoreAt F c o (tick0 s) (AH.set ⟨H2.f,H2.k,[]⟩ (nTok c) (.mp 1 (ptrMap (nBkt c) s.tok))):=by
   refine hc1.tok' (x:=tickTok s.tok) hf2 (fun m h=>by rcases h with h | ⟨a,b,_,h⟩ <;> rw [h]; exact .inl rfl; exact .inr rfl) ⟨?_,fun a b hab=>?_,fun a ha=>?_⟩
   ·simp only [go_sem]; rw [hpm]
   ·unfold tickTok at hab
    rw [Option.map_eq_some_iff] at hab
    obtain ⟨b0,h0,rfl⟩:=hab
    simp only [go_sem,a2]
    rw [q3 a b0 h0,if_pos (hall' a b0 h0)]; rfl
   ·have h0:s.tok a=none:=by
     unfold tickTok at ha
     rw [Option.map_eq_none_iff] at ha; exact ha
    rw [hf2.at_ _ (old_of tg_ne0) (fun hS=>?_)]
    ·exact hc1.tok.fresh a h0
    ·rcases hS with hS | ⟨a',b',h1,hS⟩
     ·exact a2 a hS
     ·have:a=a':=by have:=congrArg Nm.i hS; simpa using this
      rw [← this,h0] at h1; cases h1
  have h2:CStep F c o H o (tick0 s) (AH.set ⟨H2.f,H2.k,[]⟩ (nTok c) (.mp 1 (ptrMap (nBkt c) s.tok))):=by
   refine h1.trans (CStep.in_ hc2 (hf2.mono fun m h=>?_))
   rcases h with h | ⟨a,b,_,h⟩ <;> rw [h] <;> exact inCt_of (by decide) rfl
  have k0:=k.tick0 d
  simp only [go_sem]
  refine tick_fire E k0 hn hc h2 ?_
  intro o' H' h'
  rw [if_neg d]
  exact ⟨o',h'⟩
end
end Go.Ab

namespace Go.Ab
open Go Gh
variable {P : Program} {F : Nums}
section
variable {c : Nat} {o o' : AV} {H H' A B : AH} {s s' s2 : CS}
theorem ptrMap_add {α:Type} {nm:Int→Nm} {m:Int→Option α} {i:Int} {y:α}:ptrMap nm (ups m i (some y))=mset (ptrMap nm m) [i] (some (.ptr (nm i) 0)):=by
 funext l
 unfold ptrMap ups mset
 cases l with
 | nil=>simp
 | cons a r =>
  cases r with
  | nil =>
   by_cases e:a=i
   ·subst e; simp
   ·simp [e]
  | cons=>simp
theorem TokAt.add {tok:Int→Option Bkt} (h:TokAt c tok H) {a:Int} {y:Bkt} (hf:Fra (fun n=>n=nTok c∨n=nBkt c a) H H') (hm:H'.f (nTok c)=some (.mp 1 (mset (ptrMap (nBkt c) tok) [a] (some (.ptr (nBkt c a) 0))))) (h1:H'.f (nBkt c a)=some (.row 3 (cs (bktC y)))):TokAt c (ups tok a (some y)) H':=by
 have oth : ∀ b,b≠a→H'.f (nBkt c b)=H.f (nBkt c b):=fun b hb=>hf.at_ _ (old_of tg_ne0) (fun e=>by
  rcases e with e | e
  ·have:=congrArg Nm.t e; simp [tg_inj] at this
  ·have:=congrArg Nm.i e; exact hb (by simpa using this))
 refine ⟨?_,fun b z hb=>?_,fun b hb=>?_⟩
 ·rw [ptrMap_add]; exact hm
 ·unfold ups at hb
  by_cases e:b=a
  ·subst e
   simp only [if_true,Option.some.injEq] at hb
   subst hb; exact h1
  ·simp only [e,if_false] at hb
   rw [oth b e]; exact h.row b z hb
 ·unfold ups at hb
  by_cases e:b=a
  ·simp [e] at hb
  ·simp only [e,if_false] at hb
   rw [oth b e]; exact h.fresh b hb
theorem core_account_c (E:EnvK P F) (k:Ok s) (hc:CoreAt F c o s H) {e:Ev} :
  ACalls P F.core_account [.ptr (nC c) 0,.agg (evC e)] H (fun v H'=>v=i64 (s.account e).2 ∧ ∃ o',CStep F c o H o' (s.account e).1 H'):=by
 refine fn_rule E.e.g.mixed E.e.g.core_account rfl [] (fun hcl=>?_)
 have hcr:=hc.core
 have n1 : ∀ q,nC c≠⟨0,H.k,q⟩:=fun q e=>tg_ne0 (congrArg Nm.t e)
 have hs1:Same H (bmp 1 ((⟨H.f,H.k,[]⟩:AH).set ⟨0,H.k,0⟩ (.row 10 (cs (evC e))))):=(Same.mk1.tmp).bmp
 have hc1:=hc.same hs1
 have hb1:(bmp 1 ((⟨H.f,H.k,[]⟩:AH).set ⟨0,H.k,0⟩ (.row 10 (cs (evC e))))).f ⟨0,H.k,0⟩=some (.row 10 (cs (evC e))):=by simp only [go_sem]
 have h1:CStep F c o H o s (bmp 1 ((⟨H.f,H.k,[]⟩:AH).set ⟨0,H.k,0⟩ (.row 10 (cs (evC e))))):=CStep.in_ hc1 hs1.fra
 have hk1:H.k<(bmp 1 ((⟨H.f,H.k,[]⟩:AH).set ⟨0,H.k,0⟩ (.row 10 (cs (evC e))))).k:=by show H.k<H.k+1; omega
 rw [account_eq]
 refine W_cut0 ?_
 simp only [go_sem]
 generalize hH1:(bmp 1 ((⟨H.f,H.k,[]⟩:AH).set ⟨0,H.k,0⟩ (.row 10 (cs [i64 e.kind,i64 e.n,i64 e.limit,i64 e.size,i64 e.refill,i64 e.account,i64 e.mem,i64 e.cost,i64 e.reserved,i64 e.keep]))))=H1
 rw [show (bmp 1 ((⟨H.f,H.k,[]⟩:AH).set ⟨0,H.k,0⟩ (.row 10 (cs (evC e)))))=H1 from hH1] at hc1 hb1 h1 hs1 hk1
 clear hH1
 refine RT_i ?_
 have bad:(e.size>1000∨e.refill>1000)→((s,(1:Int))=if e.size>1000∨e.refill>1000 then (s,1) else if (s.setAccount e.n e.limit).2≠0 then ((s.setAccount e.n e.limit).1,(s.setAccount e.n e.limit).2) else
  ({ (s.setAccount e.n e.limit).1 with tok:=ups (s.setAccount e.n e.limit).1.tok e.n (some (acctB (s.setAccount e.n e.limit).1 e)) },0)):=fun h=>by rw [if_pos h]
 have good : ¬ (e.size>1000∨e.refill>1000)→((if (s.setAccount e.n e.limit).2≠0 then ((s.setAccount e.n e.limit).1,(s.setAccount e.n e.limit).2) else
  ({ (s.setAccount e.n e.limit).1 with tok:=ups (s.setAccount e.n e.limit).1.tok e.n (some (acctB (s.setAccount e.n e.limit).1 e)) },0))=if e.size>1000∨e.refill>1000 then (s,1) else if (s.setAccount e.n e.limit).2≠0 then ((s.setAccount e.n e.limit).1,(s.setAccount e.n e.limit).2) else
  ({ (s.setAccount e.n e.limit).1 with tok:=ups (s.setAccount e.n e.limit).1.tok e.n (some (acctB (s.setAccount e.n e.limit).1 e)) },0)):=fun h=>by rw [if_neg h]
 generalize (if e.size>1000∨e.refill>1000 then (s,1) else if (s.setAccount e.n e.limit).2≠0 then ((s.setAccount e.n e.limit).1,(s.setAccount e.n e.limit).2) else
  ({ (s.setAccount e.n e.limit).1 with tok:=ups (s.setAccount e.n e.limit).1.tok e.n (some (acctB (s.setAccount e.n e.limit).1 e)) },0))=R at bad good ⊢
 simp only [go_sem,hb1]
 refine EI_i (fun d=>?_) (fun d=>?_)
 ·have:=bad (.inl (by simpa using d))
  simp only [go_sem,d]
  rw [← this]
  exact ⟨rfl,o,h1.mk'⟩
 simp only [go_sem,d,hb1]
 refine EI_i (fun d2=>?_) (fun d2=>?_)
 ·have:=bad (.inr (by simpa using d2))
  simp only [go_sem]
  rw [← this]
  exact ⟨rfl,o,h1.mk'⟩
 have hg:=good (by simp at d d2; omega)
 clear bad good
 simp only [go_sem,hc1.core,hb1]
 refine CA_s [] (quota_SetAccount_c E.e.g (n:=nQ c) tg_ne0 s (a:=e.n) (limit:=e.limit) hc1.q k.w.q) ?_
 rintro _ H2 ⟨rfl,hq2,hf2⟩ _ _
 have hf2:Fra (At (nQ c)) H1 H2:=hf2
 have heq:(s.setAccount e.n e.limit).1={ s with acc:=(s.setAccount e.n e.limit).1.acc,qf:=(s.setAccount e.n e.limit).1.qf }:=by
  unfold CS.setAccount; split; rfl; split <;> rfl
 have hc2:CoreAt F c o (s.setAccount e.n e.limit).1 H2:=by rw [heq]; exact hc1.q' hf2 (fun n h=>by rw [h]) hq2
 have h2:CStep F c o H1 o (s.setAccount e.n e.limit).1 H2:=CStep.in_ hc2 (hf2.mono fun n h=>in_at (by decide) rfl h)
 have hb2:=h2.tmp hc.out (Int.le_refl _) hk1 hb1
 have h12:=h1.trans h2
 have k2:=k.setAccount e.n e.limit
 simp only [go_sem]
 refine EI_i (fun d3=>?_) (fun d3=>?_)
 ·have d3:(s.setAccount e.n e.limit).2≠0:=by simpa using d3
  rw [if_pos d3] at hg
  simp only [go_sem]
  rw [← hg]
  exact ⟨rfl,o,h12.mk'⟩
 have d3 : ¬ (s.setAccount e.n e.limit).2≠0:=by simpa using d3
 rw [if_neg d3] at hg
 subst hg
 generalize (s.setAccount e.n e.limit).1=s2 at hc2 h2 h12 k2
 have hm2:=hc2.tok.map
 have hl:ptrMap (nBkt c) s2.tok [e.n]=(s2.tok e.n).map fun _=>.ptr (nBkt c e.n) 0:=rfl
 have a1:nC c≠nTok c:=fun e=>by have:=congrArg Nm.t e; simp [tg_inj] at this
 have a2:nBkt c e.n≠nTok c:=fun e=>by have:=congrArg Nm.t e; simp [tg_inj] at this
 simp only [go_sem,hc2.core,hb2,hm2,hl]
 cases ht:s2.tok e.n with
 | some b =>
  have hbk:=hc2.tok.row e.n b ht
  simp only [go_sem,hb2]
  refine CA_s [] (bucket_Set_c E.e.g (b:=b) (size:=e.size) (refill:=e.refill) (H:=⟨H2.f,H2.k,[]⟩) tg_ne0 hbk) ?_
  rintro _ H3 ⟨hb3,hf3⟩ _ _
  have hf3:Fra (At (nBkt c e.n)) H2 H3:=hf3.of_mk
  have hacc:acctB s2 e=⟨CS.bnd e.size,CS.bnd e.refill,min b.tokens (CS.bnd e.size)⟩:=by unfold acctB; rw [ht]
  have hc3:CoreAt F c o { s2 with tok:=ups s2.tok e.n (some (acctB s2 e)) } H3:=hc2.tok' hf3 (fun n h=>by rw [h]; exact .inr rfl) (hc2.tok.set ht hf3 (by rw [hacc]; exact hb3))
  simp only [go_sem]
  exact ⟨o,(h12.trans (CStep.in_ hc3 (hf3.mono fun n h=>in_at (by decide) rfl h))).mk'⟩
 | none =>
  have hfr:=hc2.tok.fresh e.n ht
  simp only [go_sem,hc2.core,hb2]
  refine CA_s [] (bucket_New_c E.e.g (n:=nBkt c e.n) (size:=e.size) (refill:=e.refill) (H:=⟨H2.f,H2.k,[]⟩) tg_ne0 hfr) ?_
  rintro _ H3 ⟨rfl,hb3,hf3⟩ _ _
  have hf3:Fra (At (nBkt c e.n)) H2 H3:=hf3.of_mk
  have hcr3:H3.f (nC c)=some (.row 16 (cs (coreC c s2 o))):=(hf3.at_ _ (old_of tg_ne0) (fun e=>by have:=congrArg Nm.t e; simp [tg_inj] at this)).trans hc2.core
  have hm3:H3.f (nTok c)=some (.mp 1 (ptrMap (nBkt c) s2.tok)):=(hf3.at_ _ (old_of tg_ne0) (fun e=>by have:=congrArg Nm.t e; simp [tg_inj] at this)).trans hm2
  have hbe3:H3.f ⟨0,H.k,0⟩=some (.row 10 (cs (evC e))):=(hf3.at_ _ (fun _=>Int.lt_of_lt_of_le hk1 h2.fra.k) (fun e=>tg_ne0 (congrArg Nm.t e).symm)).trans hb2
  have hacc:acctB s2 e=⟨CS.bnd e.size,CS.bnd e.refill,CS.bnd e.size⟩:=by unfold acctB; rw [ht]
  have hf4:Fra (fun n=>n=nTok c∨n=nBkt c e.n) H2 (AH.set ⟨H3.f,H3.k,[]⟩ (nTok c) (.mp 1 (mset (ptrMap (nBkt c) s2.tok) [e.n] (some (.ptr (nBkt c e.n) 0))))):=Fra.set (hf3.mono fun n h=>.inr h).mk' (.inl (.inl rfl))
  have hc4:CoreAt F c o { s2 with tok:=ups s2.tok e.n (some (acctB s2 e)) } (AH.set ⟨H3.f,H3.k,[]⟩ (nTok c) (.mp 1 (mset (ptrMap (nBkt c) s2.tok) [e.n] (some (.ptr (nBkt c e.n) 0))))) :=
   hc2.tok' hf4 (fun n h=>by rcases h with h | h <;> rw [h]; exact .inl rfl; exact .inr rfl) (hc2.tok.add hf4 (by simp only [go_sem]) (by simp only [go_sem,a2]; rw [hacc]; exact hb3))
  simp only [go_sem,hcr3,hm3,hbe3,holdsOk_cons,gd_none,pureV,forall_const,fr_lkp,and_self]
  exact ⟨o,h12.trans (CStep.in_ hc4 (hf4.mono fun n h=>by rcases h with h | h <;> rw [h] <;> exact inCt_of (by decide) rfl))⟩
end
end Go.Ab

namespace Go.Ab
open Go Gh
variable {P : Program} {F : Nums}
section
variable {c : Nat} {o o' : AV} {H H' A B : AH} {s s' s2 : CS}
theorem FnsAt.add {fns:Int→Option Fnc} (h:FnsAt c fns H) {f:Int} {y:Fnc} (hf:Fra (fun n=>n=nFns c∨n=nFn c f∨n=nHis c f∨n=nRing c f) H H')
  (hm:H'.f (nFns c)=some (.mp 1 (mset (ptrMap (nFn c) fns) [f] (some (.ptr (nFn c f) 0)))))
  (h1:H'.f (nFn c f)=some (.row 9 (cs (fnC c f y)))) (h2:H'.f (nHis c f)=some (.row 242 (histG y.h))) (h3:H'.f (nRing c f)=some (.row 9 (ringG y.r))):FnsAt c (ups fns f (some y)) H':=by
 have oth : ∀ n:Nm,n.t≠0→n.t≠tg c 5→n.i≠f→H'.f n=H.f n:=fun n h0 h5 hn=>hf.at_ n (old_of h0) (fun hs=>by
  rcases hs with e | e | e | e <;> subst e
  ·exact h5 rfl
  ·exact hn rfl
  ·exact hn rfl
  ·exact hn rfl)
 have t6:tg c 6≠tg c 5:=by simp [tg_inj]
 have t7:tg c 7≠tg c 5:=by simp [tg_inj]
 have t8:tg c 8≠tg c 5:=by simp [tg_inj]
 refine ⟨?_,fun g z hg=>?_,fun g hg=>?_⟩
 ·rw [ptrMap_add]; exact hm
 ·unfold ups at hg
  by_cases e:g=f
  ·subst e
   simp only [if_true,Option.some.injEq] at hg
   subst hg
   exact ⟨h1,h2,h3⟩
  ·simp only [e,if_false] at hg
   have:=h.row g z hg
   rw [oth _ tg_ne0 t6 e,oth _ tg_ne0 t7 e,oth _ tg_ne0 t8 e]
   exact this
 ·unfold ups at hg
  by_cases e:g=f
  ·simp [e] at hg
  ·simp only [e,if_false] at hg
   have:=h.fresh g hg
   rw [oth _ tg_ne0 t6 e,oth _ tg_ne0 t7 e,oth _ tg_ne0 t8 e]
   exact this
abbrev fset (s:CS) (e:Ev) (x:Fnc):CS:={ s with fns:=ups s.fns e.n (some { x with cost:=e.cost,keep:=e.keep }) }
theorem ups_at {α:Type} {f:Int→α} {i:Int} (x:α):ups f i x i=x:=by unfold ups; rw [if_pos rfl]
theorem func_tail (E:EnvK P F) {e:Ev} {x:Fnc} (hx:s2.fns e.n=some x) (k3:Ok (fset s2 e x)) (hn:((fset s2 e x).keep e.n).next≤1000000000)
  {H2:AH} {i:Int} (hst2:CStep F c o H o s2 H2) (hi:H.k≤i∧i<H2.k) (hb:H2.f ⟨0,i,0⟩=some (.row 10 (cs (evC e)))) {r:List (Nat × AV)} {K:AV→AH→Prop}
  (hK : ∀ o9 H9,CStep F c o H o9 ((fset s2 e x).keep e.n) H9→K (i64 0) H9) :
  RT P (c_core_function F).ac.tl.tl.tl.tl.tl ⟨endQ [.tmp 4] K,fun _ _ _=>False,endQ [.tmp 4] K⟩
   (fr ((0,.ptr (nC c) 0)::(3,.ptr ⟨0,i,0⟩ 0)::(5,.ptr (nFn c e.n) 0)::r)) H2:=by
 simp only [c_core_function,AC.tl_seq]
 refine RT_i ?_
 have hc2:=hst2.at_
 have hr2:=hc2.fns.row e.n x hx
 have n8:(⟨0,i,0⟩:Nm)≠nFn c e.n:=fun e=>tg_ne0 (congrArg Nm.t e).symm
 have hc3:CoreAt F c o (fset s2 e x) ((⟨H2.f,H2.k,H2.sup⟩:AH).set (nFn c e.n) (.row 9 (cs (fnC c e.n { x with cost:=e.cost,keep:=e.keep })))):=hc2.fn1 (y:={ x with cost:=e.cost,keep:=e.keep }) hx rfl rfl
 have hst3:=hst2.trans (CStep.in_ hc3 (Fra.mono (Fra.mk1.s1 (n:=nFn c e.n)) fun n h=>in_at (by decide) rfl h))
 simp only [go_sem,hr2.1,hb,n8,holdsOk_cons,gd_none,pureV,forall_const,fr_lkp,and_self]
 refine CA_s [] (core_keep_c E (x:={ x with cost:=e.cost,keep:=e.keep }) (H:=(⟨H2.f,H2.k,H2.sup⟩:AH).set (nFn c e.n) (.row 9 (cs (fnC c e.n { x with cost:=e.cost,keep:=e.keep })))) k3 (ups_at _) hn hc3) ?_
 rintro _ H9 ⟨o9,h9⟩ _ _
 simp only [go_sem]
 exact hK o9 _ (hst3.trans h9).mk'
theorem func_set (E:EnvK P F) (k:Ok s) (hc:CoreAt F c o s H) {e:Ev} (hk:0≤e.keep) {R:CS × Int} (hn:R.1.next≤1000000000) {pv:AV} (hpv:(s.fns e.n=none∧pv=.nilp)∨(∃ x,s.fns e.n=some x∧pv=.ptr (nFn c e.n) 0))
  {H1:AH} {i:Int} (h1:CStep F c o H o s H1) (hi:H.k≤i∧i<H1.k) (hb1:H1.f ⟨0,i,0⟩=some (.row 10 (cs (evC e)))) {r:List (Nat × AV)}
  (hB : ¬ badF e) (hT : ¬ (s.tok e.account).isNone=true) (ho : ¬ othF s e=true) (hR:(if (s.setFunc e.n e.account e.reserved).2≠0 then ((s.setFunc e.n e.account e.reserved).1,(s.setFunc e.n e.account e.reserved).2) else ((funcS s e).keep e.n,0))=R) :
  RT P (c_core_function F).ac.tl.tl.tl ⟨endQ [.tmp 4] (fun v H'=>v=i64 R.2 ∧ ∃ o',CStep F c o H o' R.1 H'),fun _ _ _=>False,endQ [.tmp 4] (fun v H'=>v=i64 R.2 ∧ ∃ o',CStep F c o H o' R.1 H')⟩
   (fr ((0,.ptr (nC c) 0)::(3,.ptr ⟨0,i,0⟩ 0)::(5,pv)::r)) H1:=by
 simp only [c_core_function,AC.tl_seq]
 refine RT_i ?_
 have hc1:=h1.at_
 refine W_cut ?_
 simp only [go_sem,hc1.core,hb1]
 refine CA_s [] (quota_SetFunc_c E.e.g (n:=nQ c) tg_ne0 s (f:=e.n) (a:=e.account) (res:=e.reserved) hc1.q k.w.q) ?_
 rintro _ H2 ⟨rfl,hq2,hf2⟩ _ _
 have hf2:Fra (At (nQ c)) H1 H2:=hf2
 simp only [go_sem]
 refine EI_i (fun d3=>?_) (fun d3=>?_)
 ·have d3:(s.setFunc e.n e.account e.reserved).2≠0:=by simpa using d3
  rw [if_pos d3] at hR
  subst hR
  rw [setFunc_err d3] at hq2 ⊢
  have hc2:CoreAt F c o s H2:=hc1.q' hf2 (fun n h=>by rw [h]) hq2
  have h2:CStep F c o H1 o s H2:=CStep.in_ hc2 (hf2.mono fun n h=>in_at (by decide) rfl h)
  simp only [go_sem]
  exact ⟨o,(h1.trans h2).mk'⟩
 have d3 : ¬ (s.setFunc e.n e.account e.reserved).2≠0:=by simpa using d3
 rw [if_neg d3] at hR
 subst hR
 have d3:(s.setFunc e.n e.account e.reserved).2=0:=by simpa using d3
 obtain ⟨kS,hxS⟩:=k.funcS hk hB hT ho d3
 obtain ⟨_,_,_,hS⟩:=setFunc_ok d3
 have hfS:funcS s e={ (s.setFunc e.n e.account e.reserved).1 with fns:=ups (s.setFunc e.n e.account e.reserved).1.fns e.n (some (funcX s e)) }:=rfl
 have hc2:CoreAt F c o (s.setFunc e.n e.account e.reserved).1 H2:=by
  have hq2:H2.f (nQ c)=some (.row 288 (ledG (s.setFunc e.n e.account e.reserved).1.acc (s.setFunc e.n e.account e.reserved).1.qf)):=hq2
  rw [hS] at hq2 ⊢
  exact hc1.q' hf2 (fun n h=>by rw [h]) hq2
 have hSf:(s.setFunc e.n e.account e.reserved).1.fns=s.fns:=by rw [hS]
 generalize (s.setFunc e.n e.account e.reserved).1=S2 at hc2 hfS hSf
 clear hS hq2
 have h2:CStep F c o H1 o S2 H2:=CStep.in_ hc2 (hf2.mono fun n h=>in_at (by decide) rfl h)
 have hb2:=h2.tmp hc.out hi.1 hi.2 hb1
 have h12:=h1.trans h2
 have hi2:H.k≤i∧i<H2.k:=⟨hi.1,Int.lt_of_lt_of_le hi.2 h2.fra.k⟩
 simp only [go_sem]
 refine RT_i ?_
 refine W_cut ?_
 rcases hpv with ⟨hx,rfl⟩ | ⟨x,hx,rfl⟩
 ·have hfr:=hc2.fns.fresh e.n (by rw [hSf]; exact hx)
  have hfX:funcS s e=fset { S2 with fns:=ups S2.fns e.n (some { account:=e.account,mem:=e.mem,cost:=0,keep:=0,often:=0,last := -1,til:=0,h:={},r:={} }) } e { account:=e.account,mem:=e.mem,cost:=0,keep:=0,often:=0,last := -1,til:=0,h:={},r:={} }:=by
   rw [hfS]; unfold fset funcX; rw [hx,ups_ups]
  rw [hfX] at kS hn ⊢
  simp only [go_sem,hb2]
  refine CA_s [] (histo_New_c E.e.g (n:=nHis c e.n) (H:=⟨H2.f,H2.k,[]⟩) tg_ne0 hfr.2.1) ?_
  rintro _ H3 ⟨rfl,hb3,hf3⟩ _ _
  have hf3:Fra (At (nHis c e.n)) H2 H3:=hf3.of_mk
  have t1:nRing c e.n≠nHis c e.n:=fun e=>by have:=congrArg Nm.t e; simp [tg_inj] at this
  have t2:nFn c e.n≠nHis c e.n:=fun e=>by have:=congrArg Nm.t e; simp [tg_inj] at this
  have t3:nFn c e.n≠nRing c e.n:=fun e=>by have:=congrArg Nm.t e; simp [tg_inj] at this
  have t4:nFns c≠nHis c e.n:=fun e=>by have:=congrArg Nm.t e; simp [tg_inj] at this
  have t5:nFns c≠nRing c e.n:=fun e=>by have:=congrArg Nm.t e; simp [tg_inj] at this
  have t6:nC c≠nHis c e.n:=fun e=>by have:=congrArg Nm.t e; simp [tg_inj] at this
  have t7:nC c≠nRing c e.n:=fun e=>by have:=congrArg Nm.t e; simp [tg_inj] at this
  have hb3e:H3.f ⟨0,i,0⟩=some (.row 10 (cs (evC e))):=(hf3.at_ _ (fun _=>hi2.2) (fun e=>tg_ne0 (congrArg Nm.t e).symm)).trans hb2
  have hg3:H3.f (nRing c e.n)=none:=(hf3.at_ _ (old_of tg_ne0) t1).trans hfr.2.2
  simp only [go_sem,hb3e,holdsOk_cons,gd_none,pureV,forall_const,fr_lkp,and_self]
  refine CA_s [nFn c e.n] (ring_New_c E.e.g (n:=nRing c e.n) (H:=⟨H3.f,H3.k,[]⟩) tg_ne0 hg3) ?_
  rintro _ H4 ⟨rfl,hb4,hf4⟩ _ _
  have hf4:Fra (At (nRing c e.n)) H3 H4:=hf4.of_mk
  have hk3:=hf3.k
  have hb4e:H4.f ⟨0,i,0⟩=some (.row 10 (cs (evC e))):=(hf4.at_ _ (fun _=>Int.lt_of_lt_of_le hi2.2 hk3) (fun e=>tg_ne0 (congrArg Nm.t e).symm)).trans hb3e
  have hh4:H4.f (nHis c e.n)=some (.row 242 (histG {})):=(hf4.at_ _ (old_of tg_ne0) (Ne.symm t1)).trans hb3
  have hn4:H4.f (nFn c e.n)=none:=(hf4.at_ _ (old_of tg_ne0) t3).trans ((hf3.at_ _ (old_of tg_ne0) t2).trans hfr.1)
  have hm4:H4.f (nFns c)=some (.mp 1 (ptrMap (nFn c) S2.fns)):=(hf4.at_ _ (old_of tg_ne0) t5).trans ((hf3.at_ _ (old_of tg_ne0) t4).trans hc2.fns.map)
  have hr4:H4.f (nC c)=some (.row 16 (cs (coreC c S2 o))):=(hf4.at_ _ (old_of tg_ne0) t7).trans ((hf3.at_ _ (old_of tg_ne0) t6).trans hc2.core)
  have t8:(⟨0,i,0⟩:Nm)≠nFn c e.n:=fun e=>tg_ne0 (congrArg Nm.t e).symm
  have t9:nC c≠nFn c e.n:=fun e=>by have:=congrArg Nm.t e; simp [tg_inj] at this
  have t10:nFns c≠nFn c e.n:=fun e=>by have:=congrArg Nm.t e; simp [tg_inj] at this
  have t11:(nFn c e.n).t≠0:=tg_ne0
  simp only [go_sem,hb4e,hn4,t8,t9,t10,t11,hm4,hr4,holdsOk_cons,gd_none,pureV,forall_const,fr_lkp,and_self]
  have hfr5:Fra (fun n=>n=nFns c∨n=nFn c e.n∨n=nHis c e.n∨n=nRing c e.n) H2 ((bmp 1 ((⟨H4.f,H4.k,[nFn c e.n]⟩:AH).set (nFn c e.n) (.row 9 (cs (fnC c e.n { account:=e.account,mem:=e.mem,cost:=0,keep:=0,often:=0,last := -1,til:=0,h:={},r:={} }))))).set (nFns c) (.mp 1 (mset (ptrMap (nFn c) S2.fns) [e.n] (some (.ptr (nFn c e.n) 0))))) :=
   Fra.set (Fra.bmp (Fra.set ((hf3.mono fun n h=>.inr (.inr (.inl h))).trans (hf4.mono fun n h=>.inr (.inr (.inr h)))).mk' (.inl (.inr (.inl rfl))))) (.inl (.inl rfl))
  have hc5:CoreAt F c o { S2 with fns:=ups S2.fns e.n (some { account:=e.account,mem:=e.mem,cost:=0,keep:=0,often:=0,last := -1,til:=0,h:={},r:={} }) } ((bmp 1 ((⟨H4.f,H4.k,[nFn c e.n]⟩:AH).set (nFn c e.n) (.row 9 (cs (fnC c e.n { account:=e.account,mem:=e.mem,cost:=0,keep:=0,often:=0,last := -1,til:=0,h:={},r:={} }))))).set (nFns c) (.mp 1 (mset (ptrMap (nFn c) S2.fns) [e.n] (some (.ptr (nFn c e.n) 0))))) :=
   hc2.fns' hfr5 (fun n h=>by
    rcases h with h | h | h | h <;> rw [h]
    ·exact .inl rfl
    ·exact .inr (.inl rfl)
    ·exact .inr (.inr (.inl rfl))
    ·exact .inr (.inr (.inr rfl)))
    (hc2.fns.add hfr5 (by simp only [go_sem]) (by simp only [go_sem,Ne.symm t10]) (by simp only [go_sem,Ne.symm t2,Ne.symm t4]; exact hh4) (by simp only [go_sem,Ne.symm t3,Ne.symm t5]; exact hb4))
  have h5:=h12.trans (CStep.in_ hc5 (hfr5.mono fun n h=>by rcases h with h | h | h | h <;> rw [h] <;> exact inCt_of (by decide) rfl))
  have t12:(⟨0,i,0⟩:Nm)≠nFns c:=fun e=>tg_ne0 (congrArg Nm.t e).symm
  have hk4:=hf4.k
  refine func_tail E (K:=fun v H'=>v=i64 0 ∧ ∃ o',CStep F c o H o' ((fset { S2 with fns:=ups S2.fns e.n (some { account:=e.account,mem:=e.mem,cost:=0,keep:=0,often:=0,last := -1,til:=0,h:={},r:={} }) } e { account:=e.account,mem:=e.mem,cost:=0,keep:=0,often:=0,last := -1,til:=0,h:={},r:={} }).keep e.n) H') (ups_at _) kS hn h5 ⟨hi2.1,?_⟩ ?_ (fun o9 H9 h9=>⟨rfl,o9,h9⟩)
  ·show i<H4.k+1
   have:=hi2.2; omega
  ·simp only [go_sem,t8,t12]; exact hb4e
 ·have hfX:funcS s e=fset S2 e x:=by rw [hfS]; unfold fset funcX; rw [hx]
  rw [hfX] at kS hn ⊢
  simp only [go_sem]
  exact func_tail E (H2:=⟨H2.f,H2.k,[]⟩) (K:=fun v H'=>v=i64 0 ∧ ∃ o',CStep F c o H o' ((fset S2 e x).keep e.n) H') (by rw [hSf]; exact hx) kS hn h12.mk' hi2 hb2 (fun o9 H9 h9=>⟨rfl,o9,h9⟩)
theorem func_mid (E:EnvK P F) (k:Ok s) (hc:CoreAt F c o s H) {e:Ev} (hk:0≤e.keep) (hn:(s.function e).1.next≤1000000000) {pv:AV} (hpv:(s.fns e.n=none∧pv=.nilp)∨(∃ x,s.fns e.n=some x∧pv=.ptr (nFn c e.n) 0))
  {H1:AH} {i:Int} (h1:CStep F c o H o s H1) (hi:H.k≤i∧i<H1.k) (hb1:H1.f ⟨0,i,0⟩=some (.row 10 (cs (evC e)))) :
  RT P (c_core_function F).ac.tl.tl ⟨endQ [.tmp 4] (fun v H'=>v=i64 (s.function e).2 ∧ ∃ o',CStep F c o H o' (s.function e).1 H'),fun _ _ _=>False,endQ [.tmp 4] (fun v H'=>v=i64 (s.function e).2 ∧ ∃ o',CStep F c o H o' (s.function e).1 H')⟩
   (fr [(0,.ptr (nC c) 0),(3,.ptr ⟨0,i,0⟩ 0),(5,pv)]) H1:=by
 simp only [c_core_function,AC.tl_seq]
 refine RT_i ?_
 rw [function_eq] at hn ⊢
 have bad1:badF e→((s,(1:Int))=if badF e then (s,1) else if (s.tok e.account).isNone then (s,2) else if othF s e then (s,3) else if e.reserved>0∧e.keep>e.reserved then (s,4) else
  if (s.setFunc e.n e.account e.reserved).2≠0 then ((s.setFunc e.n e.account e.reserved).1,(s.setFunc e.n e.account e.reserved).2) else ((funcS s e).keep e.n,0)):=fun h=>by rw [if_pos h]
 have good1 : ¬ badF e→((if (s.tok e.account).isNone then (s,(2:Int)) else if othF s e then (s,3) else if e.reserved>0∧e.keep>e.reserved then (s,4) else
  if (s.setFunc e.n e.account e.reserved).2≠0 then ((s.setFunc e.n e.account e.reserved).1,(s.setFunc e.n e.account e.reserved).2) else ((funcS s e).keep e.n,0))=if badF e then (s,1) else if (s.tok e.account).isNone then (s,2) else if othF s e then (s,3) else if e.reserved>0∧e.keep>e.reserved then (s,4) else
  if (s.setFunc e.n e.account e.reserved).2≠0 then ((s.setFunc e.n e.account e.reserved).1,(s.setFunc e.n e.account e.reserved).2) else ((funcS s e).keep e.n,0)):=fun h=>by rw [if_neg h]
 generalize (if badF e then (s,1) else if (s.tok e.account).isNone then (s,2) else if othF s e then (s,3) else if e.reserved>0∧e.keep>e.reserved then (s,4) else
  if (s.setFunc e.n e.account e.reserved).2≠0 then ((s.setFunc e.n e.account e.reserved).1,(s.setFunc e.n e.account e.reserved).2) else ((funcS s e).keep e.n,0))=R at bad1 good1 hn ⊢
 have hc1:=h1.at_
 refine W_cut ?_
 refine W_blk ?_
 simp only [go_sem,hb1]
 refine EI_i (fun d1=>?_) (fun d1=>?_)
 ·have:=bad1 (.inl (by simpa using d1))
  simp only [go_sem]
  rw [← this]
  exact ⟨rfl,o,h1.mk'⟩
 simp only [go_sem,hb1]
 refine EI_i (fun d2=>?_) (fun d2=>?_)
 ·have:=bad1 (.inr (.inl (by simpa using d2)))
  simp only [go_sem]
  rw [← this]
  exact ⟨rfl,o,h1.mk'⟩
 simp only [go_sem,hb1]
 refine EI_i (fun d3=>?_) (fun d3=>?_)
 ·have:=bad1 (.inr (.inr (.inl (by simpa using d3))))
  simp only [go_sem]
  rw [← this]
  exact ⟨rfl,o,h1.mk'⟩
 simp only [go_sem,hb1]
 refine EI_i (fun d4=>?_) (fun d4=>?_)
 ·have:=bad1 (.inr (.inr (.inr (.inl (by simpa using d4)))))
  simp only [go_sem]
  rw [← this]
  exact ⟨rfl,o,h1.mk'⟩
 simp only [go_sem,hb1]
 refine EI_i (fun d5=>?_) (fun d5=>?_)
 ·have:=bad1 (.inr (.inr (.inr (.inr (.inl (by simpa using d5))))))
  simp only [go_sem]
  rw [← this]
  exact ⟨rfl,o,h1.mk'⟩
 simp only [go_sem,hb1]
 refine EI_i (fun d6=>?_) (fun d6=>?_)
 ·have:=bad1 (.inr (.inr (.inr (.inr (.inr (.inl (by simpa using d6)))))))
  simp only [go_sem]
  rw [← this]
  exact ⟨rfl,o,h1.mk'⟩
 simp only [go_sem,hb1]
 refine EI_i (fun d7=>?_) (fun d7=>?_)
 ·have:=bad1 (.inr (.inr (.inr (.inr (.inr (.inr (.inl (by simpa using d7))))))))
  simp only [go_sem]
  rw [← this]
  exact ⟨rfl,o,h1.mk'⟩
 simp only [go_sem,hb1]
 refine EI_i (fun d8=>?_) (fun d8=>?_)
 ·have:=bad1 (.inr (.inr (.inr (.inr (.inr (.inr (.inr ((by simpa using d8)))))))))
  simp only [go_sem]
  rw [← this]
  exact ⟨rfl,o,h1.mk'⟩
 simp only [go_sem,hb1]
 have hB : ¬ badF e:=by
  unfold badF
  simp at d1 d2 d3 d4 d5 d6 d7 d8
  omega
 have hR:=good1 hB
 clear bad1 good1 d1 d2 d3 d4 d5 d6 d7 d8
 have hm1:=hc1.tok.map
 have hl1:ptrMap (nBkt c) s.tok [e.account]=(s.tok e.account).map fun _=>.ptr (nBkt c e.account) 0:=rfl
 simp only [go_sem,hc1.core,hb1,hm1,hl1]
 cases ht:s.tok e.account with
 | none =>
  rw [if_pos (by rw [ht]; rfl)] at hR
  subst hR
  simp only [go_sem]
  exact ⟨o,h1.mk'⟩
 | some tb =>
 have hT : ¬ (s.tok e.account).isNone=true:=by rw [ht]; simp
 rw [if_neg hT] at hR
 simp only [go_sem]
 rcases hpv with ⟨hx,rfl⟩ | ⟨x,hx,rfl⟩
 ·have ho : ¬ othF s e=true:=by unfold othF; rw [hx]; simp
  rw [if_neg ho] at hR
  simp only [go_sem,hb1]
  refine EI_i (fun dp=>?_) (fun dp=>?_)
  ·simp only [go_sem,hb1]
   refine EI_i (fun dpb=>?_) (fun dpb=>?_)
   ·rw [if_pos ⟨by simpa using dp,by simpa using dpb⟩] at hR
    subst hR
    simp only [go_sem]
    exact ⟨o,h1.mk'⟩
   ·rw [if_neg (fun h=>by simp at dpb; omega)] at hR
    simp only [go_sem]
    exact func_set E k hc hk hn (.inl ⟨hx,rfl⟩) h1 hi hb1 hB hT ho hR
  ·rw [if_neg (fun h=>by simp at dp; omega)] at hR
   simp only [go_sem]
   exact func_set E k hc hk hn (.inl ⟨hx,rfl⟩) h1 hi hb1 hB hT ho hR
 ·have hr1:=(hc1.fns.row e.n x hx).1
  simp only [go_sem,hr1,hb1]
  refine EI_i (fun d9=>?_) (fun d9=>?_)
  ·rw [if_pos (by unfold othF; rw [hx]; simp at d9 ⊢; exact .inl d9)] at hR
   subst hR
   simp only [go_sem]
   exact ⟨o,h1.mk'⟩
  simp only [go_sem,hr1,hb1]
  refine EI_i (fun d10=>?_) (fun d10=>?_)
  ·rw [if_pos (by unfold othF; rw [hx]; simp at d10 ⊢; exact .inr d10)] at hR
   subst hR
   simp only [go_sem]
   exact ⟨o,h1.mk'⟩
  have ho : ¬ othF s e=true:=by unfold othF; rw [hx]; simp at d9 d10 ⊢; exact ⟨d9,d10⟩
  rw [if_neg ho] at hR
  simp only [go_sem,hb1]
  refine EI_i (fun dq=>?_) (fun dq=>?_)
  ·simp only [go_sem,hb1]
   refine EI_i (fun dqb=>?_) (fun dqb=>?_)
   ·rw [if_pos ⟨by simpa using dq,by simpa using dqb⟩] at hR
    subst hR
    simp only [go_sem]
    exact ⟨o,h1.mk'⟩
   ·rw [if_neg (fun h=>by simp at dqb; omega)] at hR
    simp only [go_sem]
    exact func_set E k hc hk hn (.inr ⟨x,hx,rfl⟩) h1 hi hb1 hB hT ho hR
  ·rw [if_neg (fun h=>by simp at dq; omega)] at hR
   simp only [go_sem]
   exact func_set E k hc hk hn (.inr ⟨x,hx,rfl⟩) h1 hi hb1 hB hT ho hR
theorem core_function_c (E:EnvK P F) (k:Ok s) {e:Ev} (hk:0≤e.keep) (hn:(s.function e).1.next≤1000000000) (hc:CoreAt F c o s H) :
  ACalls P F.core_function [.ptr (nC c) 0,.agg (evC e)] H (fun v H'=>v=i64 (s.function e).2 ∧ ∃ o',CStep F c o H o' (s.function e).1 H'):=by
 refine fn_rule E.e.g.mixed E.e.g.core_function rfl [] (fun hcl=>?_)
 have hcr:=hc.core
 have hs1:Same H (bmp 1 ((⟨H.f,H.k,[]⟩:AH).set ⟨0,H.k,0⟩ (.row 10 (cs (evC e))))):=(Same.mk1.tmp).bmp
 have hc1:=hc.same hs1
 have hb1:(bmp 1 ((⟨H.f,H.k,[]⟩:AH).set ⟨0,H.k,0⟩ (.row 10 (cs (evC e))))).f ⟨0,H.k,0⟩=some (.row 10 (cs (evC e))):=by simp only [go_sem]
 have h1:CStep F c o H o s (bmp 1 ((⟨H.f,H.k,[]⟩:AH).set ⟨0,H.k,0⟩ (.row 10 (cs (evC e))))):=CStep.in_ hc1 hs1.fra
 have hk1:H.k<(bmp 1 ((⟨H.f,H.k,[]⟩:AH).set ⟨0,H.k,0⟩ (.row 10 (cs (evC e))))).k:=by show H.k<H.k+1; omega
 refine W_cut0 ?_
 simp only [go_sem]
 generalize hH1:(bmp 1 ((⟨H.f,H.k,[]⟩:AH).set ⟨0,H.k,0⟩ (.row 10 (cs [i64 e.kind,i64 e.n,i64 e.limit,i64 e.size,i64 e.refill,i64 e.account,i64 e.mem,i64 e.cost,i64 e.reserved,i64 e.keep]))))=H1
 rw [show (bmp 1 ((⟨H.f,H.k,[]⟩:AH).set ⟨0,H.k,0⟩ (.row 10 (cs (evC e)))))=H1 from hH1] at hc1 hb1 h1 hs1 hk1
 clear hH1
 refine RT_i ?_
 have hm1:=hc1.fns.map
 have hl1:ptrMap (nFn c) s.fns [e.n]=(s.fns e.n).map fun _=>.ptr (nFn c e.n) 0:=rfl
 refine W_cut ?_
 simp only [go_sem,hc1.core,hb1,hm1,hl1]
 cases hx:s.fns e.n with
 | some x =>
  simp only [go_sem]
  exact func_mid E k hc hk hn (.inr ⟨x,hx,rfl⟩) h1 ⟨Int.le_refl _,hk1⟩ hb1
 | none =>
  simp only [go_sem]
  exact func_mid E k hc hk hn (.inl ⟨hx,rfl⟩) h1 ⟨Int.le_refl _,hk1⟩ hb1
end
end Go.Ab

namespace Go.Ab
open Go Gh
variable {P : Program} {F : Nums}
section
variable {c : Nat} {o o' : AV} {H H' A B : AH} {s s' s2 : CS}
theorem CachesAt.drop {worth:Int→Int→Option (Int × Int)} {clock:Int→Int} (h:CachesAt F c worth clock H) {n:Int} (hf:Fra (At (nCaches c)) H H')
  (hm : ∀ m,H.f (nCaches c)=some (.mp 1 m)→H'.f (nCaches c)=some (.mp 1 (mset m [n] (some .nilp)))):CachesAt F c (ups worth n fun _=>none) (ups clock n 0) H':=by
 obtain ⟨m,gen,gn,vn,h1,h2,h3,h4⟩:=h.ex
 have oth : ∀ k:Nm,k.t≠0→k.t≠tg c 10→H'.f k=H.f k:=fun k h0 hk=>hf.at_ _ (old_of h0) (fun e=>hk (congrArg Nm.t e))
 have t11:tg c 11≠tg c 10:=by simp [tg_inj]
 have t12:tg c 12≠tg c 10:=by simp [tg_inj]
 have t13:tg c 13≠tg c 10:=by simp [tg_inj]
 have t14:tg c 14≠tg c 10:=by simp [tg_inj]
 refine ⟨mset m [n] (some .nilp),ups gen n none,gn,vn,hm m h1,fun hh=>?_,fun hh j hj=>?_,fun hh j hj=>?_⟩
 ·by_cases e:hh=n
  ·subst e
   have e1:ups gen hh none hh=none:=by unfold ups; rw [if_pos rfl]
   rw [e1]
   simp only
   refine ⟨.inr (by unfold mset; simp),fun id=>?_,?_⟩
   ·unfold ups; rw [if_pos rfl]
   ·unfold ups; rw [if_pos rfl]
  ·have e1:ups gen n none hh=gen hh:=by unfold ups; rw [if_neg e]
   have e2:mset m [n] (some .nilp) [hh]=m [hh]:=by unfold mset; simp [e]
   have e3:ups worth n (fun _=>none) hh=worth hh:=by unfold ups; rw [if_neg e]
   have e4:ups clock n 0 hh=clock hh:=by unfold ups; rw [if_neg e]
   rw [e1,e2,e3,e4]
   have:=h2 hh
   cases hg:gen hh with
   | none=>simp only [hg] at this ⊢; exact this
   | some g =>
    simp only [hg] at this ⊢
    refine ⟨this.1,this.2.1,by rw [oth _ tg_ne0 t11]; exact this.2.2.1,this.2.2.2.congr ?_⟩
    rintro m (rfl | rfl | ⟨j,rfl⟩)
    ·exact oth _ tg_ne0 t12
    ·exact oth _ tg_ne0 t14
    ·exact oth _ tg_ne0 t13
 ·rw [oth _ tg_ne0 t11,oth _ tg_ne0 t12,oth _ tg_ne0 t14]; exact h3 hh j hj
 ·rw [oth _ tg_ne0 t13]; exact h4 hh j hj
def actP (s:CS) (e:Ev):CS × Int:=if e.kind=0 then (s.tick,0) else if e.kind=1 then s.account e else if e.kind=2 then s.function e else if e.kind=3 then s.host e else if e.kind=4 then s.drain e.n else if e.kind=5 then s.fail e.n
   else if e.kind=7 then s.booted e.n else if e.kind=8 then s.broke e.n else s.done e.n
def ansP (p:CS × Int):CS × Ans:=(p.1,if p.2≠0 then ⟨1,0,0,p.2⟩ else ⟨0,0,0,0⟩)
theorem act_eq (s:CS) (e:Ev):s.act e=if e.kind=6 then s.call e.n else ansP (actP s e):=by
 have h:s.act e=if e.kind=0 then ansP (s.tick,0) else if e.kind=1 then ansP (s.account e) else if e.kind=2 then ansP (s.function e) else if e.kind=3 then ansP (s.host e) else if e.kind=4 then ansP (s.drain e.n) else if e.kind=5 then ansP (s.fail e.n)
   else if e.kind=6 then s.call e.n else if e.kind=7 then ansP (s.booted e.n) else if e.kind=8 then ansP (s.broke e.n) else ansP (s.done e.n):=rfl
 rw [h]
 unfold actP
 by_cases h0:e.kind=0
 ·rw [if_pos h0,if_neg (by omega),if_pos h0]
 by_cases h1:e.kind=1
 ·rw [if_neg h0,if_pos h1,if_neg (by omega),if_neg h0,if_pos h1]
 by_cases h2:e.kind=2
 ·rw [if_neg h0,if_neg h1,if_pos h2,if_neg (by omega),if_neg h0,if_neg h1,if_pos h2]
 by_cases h3:e.kind=3
 ·rw [if_neg h0,if_neg h1,if_neg h2,if_pos h3,if_neg (by omega),if_neg h0,if_neg h1,if_neg h2,if_pos h3]
 by_cases h4:e.kind=4
 ·rw [if_neg h0,if_neg h1,if_neg h2,if_neg h3,if_pos h4,if_neg (by omega),if_neg h0,if_neg h1,if_neg h2,if_neg h3,if_pos h4]
 by_cases h5:e.kind=5
 ·rw [if_neg h0,if_neg h1,if_neg h2,if_neg h3,if_neg h4,if_pos h5,if_neg (by omega),if_neg h0,if_neg h1,if_neg h2,if_neg h3,if_neg h4,if_pos h5]
 rw [if_neg h0,if_neg h1,if_neg h2,if_neg h3,if_neg h4,if_neg h5,if_neg h0,if_neg h1,if_neg h2,if_neg h3,if_neg h4,if_neg h5]
 by_cases h6:e.kind=6
 ·rw [if_pos h6,if_pos h6]
 rw [if_neg h6,if_neg h6]
 by_cases h7:e.kind=7
 ·rw [if_pos h7,if_pos h7]
 rw [if_neg h7,if_neg h7]
 by_cases h8:e.kind=8
 ·rw [if_pos h8,if_pos h8]
 rw [if_neg h8,if_neg h8]
theorem act_tail {p:CS × Int} {o1:AV} {H0 H1:AH} {i:Int} (hc:CoreAt F c o s H) (h0:CStep F c o H o s H0) (h1:CStep F c o H0 o1 p.1 H1) (hi:H.k≤i) (hi2:i<H0.k) {w:Nat→AV} (hb:H0.f ⟨0,i,1⟩=some (.row 4 w)) {l:List (Nat × AV)} (hl4:lkp l 4=.ptr ⟨0,i,1⟩ 0) (hl5:lkp l 5=i64 p.2) {K:AV→AH→Prop}
  (hK : ∀ H9,CStep F c o H o1 p.1 H9→K (.agg (ansC (ansP p).2)) H9) :
  RT P (c_core_act F).ac.tl.tl.tl ⟨endQ [.cells 4 4] K,fun _ _ _=>False,endQ [.cells 4 4] K⟩
   (fr l) H1:=by
 simp only [c_core_act,AC.tl_seq]
 refine RT_i ?_
 refine W_cut ?_
 have hb1:=h1.tmp hc.out hi hi2 hb
 simp only [go_sem,hl4,hl5]
 refine EI_i (fun d=>?_) (fun d=>?_)
 ·have hp:p.2≠0:=by simpa using d
  have ha:(ansP p).2=⟨1,0,0,p.2⟩:=by unfold ansP; rw [if_pos hp]
  rw [ha] at hK
  simp only [go_sem,hb1,hl4,hl5]
  exact hK _ (CStep.tset (l:=H1.sup) hc h0 h1 hi hi2)
 ·have hp : ¬ p.2≠0:=by simpa using d
  have ha:(ansP p).2=⟨0,0,0,0⟩:=by unfold ansP; rw [if_neg hp]
  rw [ha] at hK
  simp only [go_sem]
  refine RT_i ?_
  simp only [go_sem,hb1,hl4,hl5]
  exact hK _ (CStep.tset (l:=H1.sup) hc h0 h1 hi hi2)
theorem Same.tmp' {A B:AH} {q i:Int} {ob:AO} (h:Same A B) (hi:A.k≤i):Same A (B.set ⟨0,i,q⟩ ob):=h.set fun ho=>by have h0:i<A.k:=ho rfl; omega
theorem actP_eq {e:Ev} (h:e.kind≠6):s.act e=ansP (actP s e):=by rw [act_eq,if_neg h]
theorem act_out {e:Ev} {p:CS × Int} {o1:AV} {H0 H1:AH} {i:Int} (hc:CoreAt F c o s H) (h0:CStep F c o H o s H0) (h1:CStep F c o H0 o1 p.1 H1) (hi:H.k≤i) (hi2:i<H0.k) {w:Nat→AV} (hb:H0.f ⟨0,i,1⟩=some (.row 4 w)) {l:List (Nat × AV)} (hl4:lkp l 4=.ptr ⟨0,i,1⟩ 0) (hl5:lkp l 5=i64 p.2)
  (hp:s.act e=ansP p) :
  RT P (c_core_act F).ac.tl.tl.tl ⟨endQ [.cells 4 4] (fun v H'=>v=.agg (ansC (s.act e).2) ∧ ∃ o',CStep F c o H o' (s.act e).1 H'),fun _ _ _=>False,endQ [.cells 4 4] (fun v H'=>v=.agg (ansC (s.act e).2) ∧ ∃ o',CStep F c o H o' (s.act e).1 H')⟩
   (fr l) H1:=by
 rw [hp]
 exact act_tail hc h0 h1 hi hi2 hb hl4 hl5 (fun H9 h9=>⟨rfl,o1,h9⟩)
theorem act_host (E:EnvK P F) (k:Ok s) {e:Ev} (hn:(s.host e).1.next≤1000000000) {H1:AH} {i:Int} (hc:CoreAt F c o s H) (hc1:CoreAt F c o s H1) (h1:CStep F c o H o s H1) (hi:H.k≤i) (hi2:i<H1.k) (hb1:H1.f ⟨0,i,0⟩=some (.row 10 (cs (evC e)))) {w:Nat→AV} (hw1:H1.f ⟨0,i,1⟩=some (.row 4 w)) (hp:s.act e=ansP (s.host e)) {ex:Nat→Fr→AH→Prop} {r:List (Nat × AV)} :
  W P (.seq (.reg [0,3,4,5] 0 (r11_11 F)) (.seq (.reg [0,3,4,5,38] 0 (r11_12 F)) (.cond (.s 38) (.seq (.reg [0,4,5] 0 (r11_13 F)) (.reg [4,5] 0 (r11_14 F))) .skip)))
   ⟨RT P (c_core_act F).ac.tl.tl.tl ⟨endQ [.cells 4 4] (fun v H'=>v=.agg (ansC (s.act e).2) ∧ ∃ o',CStep F c o H o' (s.act e).1 H'),fun _ _ _=>False,endQ [.cells 4 4] (fun v H'=>v=.agg (ansC (s.act e).2) ∧ ∃ o',CStep F c o H o' (s.act e).1 H')⟩,ex,endQ [.cells 4 4] (fun v H'=>v=.agg (ansC (s.act e).2) ∧ ∃ o',CStep F c o H o' (s.act e).1 H')⟩
   ((0,.ptr (nC c) 0)::(3,.ptr ⟨0,i,0⟩ 0)::(4,.ptr ⟨0,i,1⟩ 0)::r) H1 ⟨⟩:=by
 have hcr:=hc1.core
 simp only [go_sem,hcr,hb1]
 refine CA_s [] (host_Add_c E.e.g (n:=nHosts c) tg_ne0 s (h:=e.n) (size:=e.size) hc1.hosts) ?_
 rintro _ H2 ⟨rfl,hq2,hf2⟩ _ _
 have hf2:Fra (At (nHosts c)) H1 H2:=hf2
 rw [host_eq] at hn hp
 simp only [go_sem]
 refine EI_i (fun d=>?_) (fun d=>?_)
 ·have d:(s.hAdd e.n e.size).2=0:=by simpa using d
  rw [if_neg (by omega)] at hn hp
  have kA:=k.hAdd d
  have hc2:CoreAt F c o (s.hAdd e.n e.size).1 H2:=by
   have heq:(s.hAdd e.n e.size).1={ s with hosts:=(s.hAdd e.n e.size).1.hosts }:=by
    unfold CS.hAdd; split; rfl; split <;> rfl
   rw [heq]; exact hc1.hosts' hf2 (fun n h=>by rw [h]) hq2
  have h2:CStep F c o H1 o (s.hAdd e.n e.size).1 H2:=CStep.in_ hc2 (hf2.mono fun n h=>in_at (by decide) rfl h)
  have hb2:=h2.tmp hc.out hi hi2 hb1
  have hw2:=h2.tmp hc.out hi hi2 hw1
  rw [d]
  generalize (s.hAdd e.n e.size).1=S2 at hc2 h2 kA hn hp
  obtain ⟨m,hm⟩ : ∃ m,H2.f (nCaches c)=some (.mp 1 m):=by
   obtain ⟨m,_,_,_,h,_⟩:=hc2.caches.ex; exact ⟨m,h⟩
  simp only [go_sem,hc2.core,hb2,hm,holdsOk_cons,gd_none,pureV,forall_const,fr_lkp,and_self]
  have hf3:Fra (At (nCaches c)) H2 ((⟨H2.f,H2.k,[]⟩:AH).set (nCaches c) (.mp 1 (mset m [e.n] (some .nilp)))):=Fra.mk1.s1
  have hc3:CoreAt F c o { S2 with clock:=ups S2.clock e.n 0,worth:=ups S2.worth e.n fun _=>none } ((⟨H2.f,H2.k,[]⟩:AH).set (nCaches c) (.mp 1 (mset m [e.n] (some .nilp)))) :=
   hc2.caches' hf3 (fun n h=>by rw [h]; exact .inl rfl) (hc2.caches.drop hf3 (fun m' h=>by rw [hm] at h; cases h; simp only [go_sem]))
  have h3:=h2.trans (CStep.in_ hc3 (hf3.mono fun n h=>in_at (by decide) rfl h))
  refine CA_s [] (core_keepAll_c E kA hn hc3) ?_
  rintro _ H4 ⟨o4,h4⟩ _ _
  simp only [go_sem]
  exact act_out hc h1 (h3.trans h4).mk' hi hi2 hw1 rfl rfl hp
 ·have d:(s.hAdd e.n e.size).2≠0:=by simpa using d
  rw [if_pos d] at hn hp
  rw [hAdd_err d] at hq2 hp
  have hc2:CoreAt F c o s H2:=hc1.hosts' hf2 (fun n h=>by rw [h]) hq2
  have h2:CStep F c o H1 o s H2:=CStep.in_ hc2 (hf2.mono fun n h=>in_at (by decide) rfl h)
  simp only [go_sem]
  exact act_out (p:=(s,(s.hAdd e.n e.size).2)) hc h1 h2.mk' hi hi2 hw1 rfl rfl hp
theorem act_rest (E:EnvK P F) (k:Ok s) {e:Ev} (hk:0≤e.keep) (hn:(s.act e).1.next≤1000000000) (hs:s.next<1000000000) {H1:AH} {i:Int} (hc:CoreAt F c o s H) (hc1:CoreAt F c o s H1) (h1:CStep F c o H o s H1) (hi:H.k≤i) (hi2:i<H1.k) (hb1:H1.f ⟨0,i,0⟩=some (.row 10 (cs (evC e)))) {w:Nat→AV} (hw1:H1.f ⟨0,i,1⟩=some (.row 4 w)) (n0 : ¬ e.kind=0) (n1 : ¬ e.kind=1) (n2 : ¬ e.kind=2) (n3 : ¬ e.kind=3) {ex:Nat→Fr→AH→Prop} {r:List (Nat × AV)} :
  W P (.seq (.reg [0,3,4,7,47] 0 (r11_15 F))
       (.cond (.s 47)
       (.reg [4,5] 0 (r11_16 F))
       (.seq (.reg [0,3,4,7,53] 0 (r11_17 F))
        (.cond (.s 53)
        (.reg [4,5] 0 (r11_18 F))
        (.seq (.reg [0,3,4,7,59] 0 (r11_19 F))
         (.cond (.s 59)
         (.seq (.reg [4] 0 (r11_20 F))
          .ret)
         (.seq (.reg [0,3,4,7,65] 0 (r11_21 F))
          (.cond (.s 65)
          (.reg [4,5] 0 (r11_22 F))
          (.seq (.reg [0,3,4,71] 0 (r11_23 F))
           (.cond (.s 71)
           (.reg [4,5] 0 (r11_24 F))
           (.reg [4,5] 0 (r11_3 F))))))))))))
   ⟨RT P (c_core_act F).ac.tl.tl.tl ⟨endQ [.cells 4 4] (fun v H'=>v=.agg (ansC (s.act e).2) ∧ ∃ o',CStep F c o H o' (s.act e).1 H'),fun _ _ _=>False,endQ [.cells 4 4] (fun v H'=>v=.agg (ansC (s.act e).2) ∧ ∃ o',CStep F c o H o' (s.act e).1 H')⟩,ex,endQ [.cells 4 4] (fun v H'=>v=.agg (ansC (s.act e).2) ∧ ∃ o',CStep F c o H o' (s.act e).1 H')⟩
   ((0,.ptr (nC c) 0)::(3,.ptr ⟨0,i,0⟩ 0)::(4,.ptr ⟨0,i,1⟩ 0)::(7,i64 e.kind)::r) H1 ⟨⟩:=by
 simp only [go_sem,hb1]
 refine EI_i (fun d=>?_) (fun d=>?_)
 ·have d:e.kind=4:=by simpa using d
  have hA:actP s e=s.drain e.n:=by unfold actP; rw [if_neg n0,if_neg n1,if_neg n2,if_neg n3,if_pos d]
  have hp:s.act e=ansP (s.drain e.n):=by rw [actP_eq (by omega),hA]
  have hn':(s.drain e.n).1.next≤1000000000:=by rw [hp] at hn; exact hn
  simp only [go_sem,hb1]
  refine CA_s [] (core_drain_c E k hn' hc1) ?_
  rintro _ H2 ⟨rfl,o2,h2⟩ _ _
  simp only [go_sem]
  exact act_out hc h1 h2.mk' hi hi2 hw1 rfl rfl hp
 have n4 : ¬ e.kind=4:=by simpa using d
 clear d
 simp only [go_sem,hb1]
 refine EI_i (fun d=>?_) (fun d=>?_)
 ·have d:e.kind=5:=by simpa using d
  have hA:actP s e=s.fail e.n:=by unfold actP; rw [if_neg n0,if_neg n1,if_neg n2,if_neg n3,if_neg n4,if_pos d]
  have hp:s.act e=ansP (s.fail e.n):=by rw [actP_eq (by omega),hA]
  have hn':(s.fail e.n).1.next≤1000000000:=by rw [hp] at hn; exact hn
  simp only [go_sem,hb1]
  refine CA_s [] (core_fail_c E k hn' hc1) ?_
  rintro _ H2 ⟨rfl,o2,h2⟩ _ _
  simp only [go_sem]
  exact act_out hc h1 h2.mk' hi hi2 hw1 rfl rfl hp
 have n5 : ¬ e.kind=5:=by simpa using d
 clear d
 simp only [go_sem,hb1]
 refine EI_i (fun d=>?_) (fun d=>?_)
 ·have d:e.kind=6:=by simpa using d
  have hA:s.act e=s.call e.n:=by rw [act_eq,if_pos d]
  rw [hA]
  simp only [go_sem,hb1]
  refine CA_s [] (core_call_c E k hs hc1) ?_
  rintro _ H2 ⟨rfl,o2,h2⟩ _ _
  have hw2:=h2.tmp hc.out hi hi2 hw1
  simp only [go_sem,hw2]
  exact ⟨rfl,o2,CStep.tset (l:=_) hc h1 h2 hi hi2⟩
 have n6 : ¬ e.kind=6:=by simpa using d
 clear d
 simp only [go_sem,hb1]
 refine EI_i (fun d=>?_) (fun d=>?_)
 ·have d:e.kind=7:=by simpa using d
  have hA:actP s e=s.booted e.n:=by unfold actP; rw [if_neg n0,if_neg n1,if_neg n2,if_neg n3,if_neg n4,if_neg n5,if_pos d]
  have hp:s.act e=ansP (s.booted e.n):=by rw [actP_eq (by omega),hA]
  have hn':(s.booted e.n).1.next≤1000000000:=by rw [hp] at hn; exact hn
  simp only [go_sem,hb1]
  refine CA_s [] (core_booted_c E k (Int.le_of_lt hs) hc1) ?_
  rintro _ H2 ⟨rfl,o2,h2⟩ _ _
  simp only [go_sem]
  exact act_out hc h1 h2.mk' hi hi2 hw1 rfl rfl hp
 have n7 : ¬ e.kind=7:=by simpa using d
 clear d
 simp only [go_sem,hb1]
 refine EI_i (fun d=>?_) (fun d=>?_)
 ·have d:e.kind=8:=by simpa using d
  have hA:actP s e=s.broke e.n:=by unfold actP; rw [if_neg n0,if_neg n1,if_neg n2,if_neg n3,if_neg n4,if_neg n5,if_neg n7,if_pos d]
  have hp:s.act e=ansP (s.broke e.n):=by rw [actP_eq (by omega),hA]
  have hn':(s.broke e.n).1.next≤1000000000:=by rw [hp] at hn; exact hn
  simp only [go_sem,hb1]
  refine CA_s [] (core_broke_c E k hn' hc1) ?_
  rintro _ H2 ⟨rfl,o2,h2⟩ _ _
  simp only [go_sem]
  exact act_out hc h1 h2.mk' hi hi2 hw1 rfl rfl hp
 have n8 : ¬ e.kind=8:=by simpa using d
 clear d
 simp only [go_sem,hb1]
 have hA:actP s e=s.done e.n:=by unfold actP; rw [if_neg n0,if_neg n1,if_neg n2,if_neg n3,if_neg n4,if_neg n5,if_neg n7,if_neg n8]
 have hp:s.act e=ansP (s.done e.n):=by rw [actP_eq (by omega),hA]
 have hn':(s.done e.n).1.next≤1000000000:=by rw [hp] at hn; exact hn
 refine CA_s [] (core_done_c E k (Int.le_of_lt hs) hc1) ?_
 rintro _ H2 ⟨rfl,o2,h2⟩ _ _
 simp only [go_sem]
 exact act_out hc h1 h2.mk' hi hi2 hw1 rfl rfl hp
theorem core_act_c (E:EnvK P F) (k:Ok s) {e:Ev} (hk:0≤e.keep) (hn:(s.act e).1.next≤1000000000) (hs:s.next<1000000000) (hc:CoreAt F c o s H) :
  ACalls P F.core_act [.ptr (nC c) 0,.agg (evC e)] H (fun v H'=>v=.agg (ansC (s.act e).2) ∧ ∃ o',CStep F c o H o' (s.act e).1 H'):=by
 refine fn_rule E.e.g.mixed E.e.g.core_act rfl [] (fun hcl=>?_)
 have hs1:Same H (bmp 2 (((⟨H.f,H.k,[]⟩:AH).set ⟨0,H.k,0⟩ (.row 10 (cs (evC e)))).set ⟨0,H.k,1⟩ (.row 4 (cs [i64 0,i64 0,i64 0,i64 0])))):=((Same.mk1.tmp).tmp' (Int.le_refl _)).bmp
 have hc1:=hc.same hs1
 have hb1:(bmp 2 (((⟨H.f,H.k,[]⟩:AH).set ⟨0,H.k,0⟩ (.row 10 (cs (evC e)))).set ⟨0,H.k,1⟩ (.row 4 (cs [i64 0,i64 0,i64 0,i64 0])))).f ⟨0,H.k,0⟩=some (.row 10 (cs (evC e))):=by simp only [go_sem,show (⟨0,H.k,0⟩:Nm)≠⟨0,H.k,1⟩ from fun e=>by simp at e]
 have hw1:(bmp 2 (((⟨H.f,H.k,[]⟩:AH).set ⟨0,H.k,0⟩ (.row 10 (cs (evC e)))).set ⟨0,H.k,1⟩ (.row 4 (cs [i64 0,i64 0,i64 0,i64 0])))).f ⟨0,H.k,1⟩=some (.row 4 (cs [i64 0,i64 0,i64 0,i64 0])):=by simp only [go_sem]
 have h1:CStep F c o H o s (bmp 2 (((⟨H.f,H.k,[]⟩:AH).set ⟨0,H.k,0⟩ (.row 10 (cs (evC e)))).set ⟨0,H.k,1⟩ (.row 4 (cs [i64 0,i64 0,i64 0,i64 0])))):=CStep.in_ hc1 hs1.fra
 have hk1:H.k<(bmp 2 (((⟨H.f,H.k,[]⟩:AH).set ⟨0,H.k,0⟩ (.row 10 (cs (evC e)))).set ⟨0,H.k,1⟩ (.row 4 (cs [i64 0,i64 0,i64 0,i64 0])))).k:=by show H.k<H.k+1; omega
 have hk0:=Int.le_refl H.k
 refine W_cut0 ?_
 simp only [go_sem]
 generalize hH1:(bmp 2 (((⟨H.f,H.k,[]⟩:AH).set ⟨0,H.k,0⟩ (.row 10 (cs (evC e)))).set ⟨0,H.k,1⟩ (.row 4 (cs [i64 0,i64 0,i64 0,i64 0]))))=H1 at *
 refine RT_i ?_
 refine W_cut ?_
 simp only [go_sem]
 refine RT_i ?_
 refine W_cut ?_
 simp only [go_sem,hb1]
 refine EI_i (fun d=>?_) (fun d=>?_)
 ·have d:e.kind=0:=by simpa using d
  have hA:actP s e=(s.tick,0):=by unfold actP; rw [if_pos d]
  have hp:s.act e=ansP ((s.tick,0)):=by rw [actP_eq (by omega),hA]
  have hn':((s.tick,0)).1.next≤1000000000:=by rw [hp] at hn; exact hn
  simp only [go_sem,hb1]
  refine CA_s [] (core_tick_c E k (by exact hn') hc1) ?_
  rintro _ H2 ⟨o2,h2⟩ _ _
  simp only [go_sem]
  exact act_out hc h1 h2.mk' hk0 hk1 hw1 rfl rfl hp
 have n0 : ¬ e.kind=0:=by simpa using d
 clear d
 simp only [go_sem,hb1]
 refine EI_i (fun d=>?_) (fun d=>?_)
 ·have d:e.kind=1:=by simpa using d
  have hA:actP s e=s.account e:=by unfold actP; rw [if_neg n0,if_pos d]
  have hp:s.act e=ansP (s.account e):=by rw [actP_eq (by omega),hA]
  have hn':(s.account e).1.next≤1000000000:=by rw [hp] at hn; exact hn
  simp only [go_sem,hb1]
  refine CA_s [] (core_account_c E k hc1 (e:=e)) ?_
  rintro _ H2 ⟨rfl,o2,h2⟩ _ _
  simp only [go_sem]
  exact act_out hc h1 h2.mk' hk0 hk1 hw1 rfl rfl hp
 have n1 : ¬ e.kind=1:=by simpa using d
 clear d
 simp only [go_sem,hb1]
 refine EI_i (fun d=>?_) (fun d=>?_)
 ·have d:e.kind=2:=by simpa using d
  have hA:actP s e=s.function e:=by unfold actP; rw [if_neg n0,if_neg n1,if_pos d]
  have hp:s.act e=ansP (s.function e):=by rw [actP_eq (by omega),hA]
  have hn':(s.function e).1.next≤1000000000:=by rw [hp] at hn; exact hn
  simp only [go_sem,hb1]
  refine CA_s [] (core_function_c E k hk (e:=e) hn' hc1) ?_
  rintro _ H2 ⟨rfl,o2,h2⟩ _ _
  simp only [go_sem]
  exact act_out hc h1 h2.mk' hk0 hk1 hw1 rfl rfl hp
 have n2 : ¬ e.kind=2:=by simpa using d
 clear d
 simp only [go_sem,hb1]
 refine EI_i (fun d=>?_) (fun d=>?_)
 ·have d:e.kind=3:=by simpa using d
  have hA:actP s e=s.host e:=by unfold actP; rw [if_neg n0,if_neg n1,if_neg n2,if_pos d]
  have hp:s.act e=ansP (s.host e):=by rw [actP_eq (by omega),hA]
  have hn':(s.host e).1.next≤1000000000:=by rw [hp] at hn; exact hn
  exact act_host E k hn' hc hc1 h1 hk0 hk1 hb1 hw1 hp
 have n3 : ¬ e.kind=3:=by simpa using d
 exact act_rest E k hk hn hs hc hc1 h1 hk0 hk1 hb1 hw1 n0 n1 n2 n3
end
end Go.Ab

namespace Go.Ab
open Go Gh
variable {P : Program} {F : Nums}
section
variable {H : AH}
theorem atomic_Load_c (G:Good P F) {n:Nm} {off w:Nat} {g:Nat→AV} {v:Int} (hn:H.f n=some (.row w g)) (ho:off<w) (hg:g off=i64 v) :
  ACalls P F.sync_atomic_Int64_Load [.ptr n off] H (fun x H'=>x=i64 v∧Same H H'):=by
 refine fn_rule G.mixed G.sync_atomic_Int64_Load rfl [] (fun hcl=>?_)
 simp only [go_sem,hn,ho,hg]
 exact Same.mk1
theorem atomic_Cas_c (G:Good P F) {n:Nm} {off w:Nat} {g:Nat→AV} {v u:Int} (hn:H.f n=some (.row w g)) (ho:off<w) (hg:g off=i64 v) :
  ACalls P F.sync_atomic_Int64_CompareAndSwap [.ptr n off,i64 v,i64 u] H (fun x H'=>x=.bool true∧H'.f n=some (.row w (upd g off (i64 u)))∧Fra (At n) H H'):=by
 refine fn_rule G.mixed G.sync_atomic_Int64_CompareAndSwap rfl [] (fun hcl=>?_)
 simp only [go_sem,hn,ho,hg]
 exact Fra.mk1.s1
theorem tally_Add_c (G:Good P F) {n:Nm} {off w:Nat} {g:Nat→AV} {v d:Int} (hn:H.f n=some (.row w g)) (ho:off<w) (hg:g off=i64 v) (ht:n.t≠0)
  (hv : -4611686018427387904≤v∧v≤4611686018427387904) (hd : -4611686018427387904≤d∧d≤4611686018427387903) :
  ACalls P F.tally_Add [.ptr n off,i64 d] H (fun x H'=>x=i64 (v+d)∧H'.f n=some (.row w (upd g off (i64 (v+d))))∧Fra (At n) H H'):=by
 refine fn_rule G.mixed G.tally_Add rfl [] (fun hcl=>?_)
 simp only [go_sem]
 refine C_loop (fun k l H'=>k=0∧l=[(0,.ptr n off),(1,i64 d)]∧H'.f=H.f∧H.k≤H'.k) 0 ⟨rfl,rfl,rfl,Int.le_refl _⟩ ?_
 rintro k l H1 ⟨rfl,rfl,hf,hk⟩ _ _
 refine ⟨[],?_⟩
 have hn1:H1.f n=some (.row w g):=by rw [hf]; exact hn
 simp only [go_sem,hn1,ho,hg]
 refine CA_s [] (atomic_Load_c G (H:=⟨H1.f,H1.k,[]⟩) hn1 ho hg) ?_
 rintro _ H2 ⟨rfl,h2⟩ _ _
 simp only [go_sem]
 refine CA_s [] (num_Add_c G hv hd) ?_
 rintro _ H3 ⟨rfl,h3⟩ _ _
 have hn3:H3.f n=some (.row w g):=(h3.at_ _ (old_of ht)).trans ((h2.at_ _ (old_of ht)).trans hn1)
 simp only [go_sem,hn3,ho,hg]
 refine CA_s [] (atomic_Cas_c G (H:=⟨H3.f,H3.k,[]⟩) hn3 ho hg) ?_
 rintro _ H4 ⟨rfl,h4,hf4⟩ _ _
 simp only [go_sem]
 refine ⟨h4,?_⟩
 have e1:Fra (At n) H H1:=⟨hk,fun m _ _=>by rw [hf]⟩
 exact (((e1.trans (Same.of_mk h2).fra).trans (Same.of_mk h3).fra).trans (Fra.of_mk hf4)).mk'
end
end Go.Ab

namespace Go.Ab
open Go Gh
variable {P : Program} {F : Nums}
section
variable {H : AH}
def partsL (k:Int):Option (List Nat):=if k=0 then some [] else if k=1 then some [1,2,3,4] else if k=2 then some [1,5,6,7,8,9] else if k=3 then some [1,3] else if 4≤k∧k≤9 then some [1] else none
def PartsAt (k:Int) (n:Nm) (K:Int) (v:AV) (H':AH):Prop:=match partsL k with
 | none=>v=.nils
 | some l => ∃ i:Int,K≤i∧i<H'.k∧v=.slice ⟨0,i,0⟩ 1 0 l.length∧H'.f ⟨0,i,0⟩=some (.row l.length (cs (l.map fun j=>.ptr n j)))
theorem event_parts_c (G:Good P F) {n:Nm} {g:Nat→AV} {kd:Int} (hn:H.f n=some (.row 10 g)) (hg:g 0=i64 kd) :
  ACalls P F.event_Event_parts [.ptr n 0] H (fun v H'=>PartsAt kd n H.k v H'∧Same H H'):=by
 refine fn_rule G.mixed G.event_Event_parts rfl [] (fun hcl=>?_)
 have fin : ∀ (l:List Nat) (v:AV) (H':AH),partsL kd=some l→v=.slice ⟨0,H.k,0⟩ 1 0 l.length→H.k<H'.k→H'.f ⟨0,H.k,0⟩=some (.row l.length (cs (l.map fun j=>.ptr n j)))→Same H H'→PartsAt kd n H.k v H'∧Same H H':=by
  intro l v H' hl hv hk hr hs
  refine ⟨?_,hs⟩
  unfold PartsAt
  rw [hl]
  exact ⟨H.k,Int.le_refl _,hk,hv,hr⟩
 have hsm : ∀ (r:Nat) (c:Nat→AV),Same H (bmp 1 ((⟨H.f,H.k,[]⟩:AH).set ⟨0,H.k,0⟩ (.row r c))):=fun r c=>(Same.mk1.tmp).bmp
 have hkk : ∀ (r:Nat) (c:Nat→AV),H.k<(bmp 1 ((⟨H.f,H.k,[]⟩:AH).set ⟨0,H.k,0⟩ (.row r c))).k:=fun r c=>by show H.k<H.k+1; omega
 simp only [go_sem,hn,hg]
 refine EI_i (fun d=>?_) (fun d=>?_)
 ·have d:kd=0:=by simpa using d
  simp only [go_sem]
  exact fin [] _ _ (by unfold partsL; rw [if_pos d]) rfl (hkk _ _) (by simp only [go_sem]; try rfl) (hsm _ _)
 have n0 : ¬ kd=0:=by simpa using d
 simp only [go_sem]
 refine EI_i (fun d=>?_) (fun d=>?_)
 ·have d:kd=1:=by simpa using d
  simp only [go_sem]
  exact fin [1,2,3,4] _ _ (by unfold partsL; rw [if_neg n0,if_pos d]) rfl (hkk _ _) (by simp only [go_sem]; try rfl) (hsm _ _)
 have n1 : ¬ kd=1:=by simpa using d
 simp only [go_sem]
 refine EI_i (fun d=>?_) (fun d=>?_)
 ·have d:kd=2:=by simpa using d
  simp only [go_sem]
  exact fin [1,5,6,7,8,9] _ _ (by unfold partsL; rw [if_neg n0,if_neg n1,if_pos d]) rfl (hkk _ _) (by simp only [go_sem]; try rfl) (hsm _ _)
 have n2 : ¬ kd=2:=by simpa using d
 simp only [go_sem]
 refine EI_i (fun d=>?_) (fun d=>?_)
 ·have d:kd=3:=by simpa using d
  simp only [go_sem]
  exact fin [1,3] _ _ (by unfold partsL; rw [if_neg n0,if_neg n1,if_neg n2,if_pos d]) rfl (hkk _ _) (by simp only [go_sem]; try rfl) (hsm _ _)
 have n3 : ¬ kd=3:=by simpa using d
 simp only [go_sem]
 have f1:(4≤kd∧kd≤9)→partsL kd=some [1]:=fun h=>by unfold partsL; rw [if_neg n0,if_neg n1,if_neg n2,if_neg n3,if_pos h]
 refine EI_i (fun d4=>?_) (fun d4=>?_)
 ·simp only [go_sem,d4]
  exact fin [1] _ _ (f1 (by simp at d4; omega)) rfl (hkk _ _) (by simp only [go_sem]; try rfl) (hsm _ _)
 simp only [go_sem]
 refine EI_i (fun d5=>?_) (fun d5=>?_)
 ·simp only [go_sem,d5]
  exact fin [1] _ _ (f1 (by simp at d5; omega)) rfl (hkk _ _) (by simp only [go_sem]; try rfl) (hsm _ _)
 simp only [go_sem]
 refine EI_i (fun d6=>?_) (fun d6=>?_)
 ·simp only [go_sem,d6]
  exact fin [1] _ _ (f1 (by simp at d6; omega)) rfl (hkk _ _) (by simp only [go_sem]; try rfl) (hsm _ _)
 simp only [go_sem]
 refine EI_i (fun d7=>?_) (fun d7=>?_)
 ·simp only [go_sem,d7]
  exact fin [1] _ _ (f1 (by simp at d7; omega)) rfl (hkk _ _) (by simp only [go_sem]; try rfl) (hsm _ _)
 simp only [go_sem]
 refine EI_i (fun d8=>?_) (fun d8=>?_)
 ·simp only [go_sem,d8]
  exact fin [1] _ _ (f1 (by simp at d8; omega)) rfl (hkk _ _) (by simp only [go_sem]; try rfl) (hsm _ _)
 simp only [go_sem]
 refine EI_i (fun d9=>?_) (fun d9=>?_)
 ·simp only [go_sem,d9]
  exact fin [1] _ _ (f1 (by simp at d9; omega)) rfl (hkk _ _) (by simp only [go_sem]; try rfl) (hsm _ _)
 simp only [go_sem,d9]
 refine ⟨?_,Same.mk1⟩
 unfold PartsAt
 have:partsL kd=none:=by
  simp at d4 d5 d6 d7 d8 d9
  unfold partsL; rw [if_neg n0,if_neg n1,if_neg n2,if_neg n3,if_neg (by omega)]
 rw [this]
end
end Go.Ab

namespace Go.Ab
open Go Gh
variable {P : Program} {F : Nums}
def evI (e:Ev) (q:Nat):Int:=[e.kind,e.n,e.limit,e.size,e.refill,e.account,e.mem,e.cost,e.reserved,e.keep].getD q 0
def sameI (e:Ev) (l:List Nat) (j:Nat) (q:Nat):Int:=if q=0∨q∈l.take j then evI e q else 0
def sameG (e:Ev) (l:List Nat) (j:Nat) (q:Nat):AV:=if q<10 then i64 (sameI e l j q) else .any
def eqEv (e:Ev) (l:List Nat):Bool:=(List.range 10).all fun q=>evI e q==sameI e l l.length q
theorem partsL_bd {k:Int} {l:List Nat} (h:partsL k=some l):l.length≤6 ∧ ∀ q∈l,q<10:=by
 unfold partsL at h
 repeat' (split at h)
 all_goals first
  | cases h
  | (simp only [Option.some.injEq] at h; subst h; decide)
 all_goals decide
theorem sameG_step {e:Ev} {l:List Nat} {j:Nat} (hj:j<l.length) (h10:l[j]<10):upd (sameG e l j) l[j] (i64 (evI e l[j]))=sameG e l (j+1):=by
 have ht : ∀ q,(q∈l.take (j+1))=(q∈l.take j∨q=l[j]):=fun q=>by
  rw [List.take_succ_eq_append_getElem hj]
  exact propext (List.mem_append.trans (or_congr Iff.rfl List.mem_singleton))
 funext q
 unfold upd sameG sameI
 by_cases hq:q=l[j]
 ·have h1:(q==l[j])=true:=by simpa using hq
  rw [h1,cond_true,if_pos (by omega),if_pos (.inr ((ht q).symm ▸ .inr hq)),hq]
 ·have h1:(q==l[j])=false:=by simpa using hq
  have h2:(q=0∨q∈l.take (j+1))=(q=0∨q∈l.take j):=by rw [ht q,or_iff_left hq]
  rw [h1]
  simp only [h2,cond_false]
theorem sameG_zero {e:Ev} {l:List Nat}:cs [i64 e.kind,i64 0,i64 0,i64 0,i64 0,i64 0,i64 0,i64 0,i64 0,i64 0]=sameG e l 0:=by
 funext q
 unfold sameG sameI cs
 by_cases h:q<10
 ·rw [if_pos h]
  rcases q with _ | _ | _ | _ | _ | _ | _ | _ | _ | _ | q <;> first | rfl | omega
 ·rw [if_neg h]
  have:([i64 e.kind,i64 0,i64 0,i64 0,i64 0,i64 0,i64 0,i64 0,i64 0,i64 0]).length≤q:=by simp; omega
  rw [List.getD_eq_getElem?_getD,List.getElem?_eq_none this]; rfl
theorem right_of {e:Ev}:e.right=match partsL e.kind with | none=>false | some l=>(l.all fun q=>decide (inr (evI e q)))&&eqEv e l:=by
 obtain ⟨kind,n,limit,size,refill,account,mem,cost,reserved,keep⟩:=e
 unfold Ev.right partsL
 simp only
 by_cases h0:kind=0
 ·subst h0
  rw [if_pos rfl,if_pos rfl]
  rw [Bool.eq_iff_iff]
  simp [eqEv,evI,sameI,Ev.zero,List.range,List.range.loop,and_assoc]
 rw [if_neg h0,if_neg h0]
 by_cases h1:kind=1
 ·subst h1
  rw [if_pos rfl,if_pos rfl]
  rw [Bool.eq_iff_iff]
  simp [eqEv,evI,sameI,Ev.zero,List.range,List.range.loop,and_assoc]
 rw [if_neg h1,if_neg h1]
 by_cases h2:kind=2
 ·subst h2
  rw [if_pos rfl,if_pos rfl]
  rw [Bool.eq_iff_iff]
  simp [eqEv,evI,sameI,Ev.zero,List.range,List.range.loop,and_assoc]
 rw [if_neg h2,if_neg h2]
 by_cases h3:kind=3
 ·subst h3
  rw [if_pos rfl,if_pos rfl]
  rw [Bool.eq_iff_iff]
  simp [eqEv,evI,sameI,Ev.zero,List.range,List.range.loop,and_assoc]
 rw [if_neg h3,if_neg h3]
 by_cases h4:4≤kind∧kind≤9
 ·rw [if_pos h4]
  rw [Bool.eq_iff_iff]
  simp [eqEv,evI,sameI,Ev.zero,List.range,List.range.loop,and_assoc,h4]
 ·rw [if_neg h4]
  simp only [Bool.and_eq_false_imp,decide_eq_true_eq]
  intro h
  exact absurd ⟨h.1,h.2.1⟩ h4
section
variable {H : AH}
theorem event_Right_c (G:Good P F) {e:Ev}:ACalls P F.event_Event_Right [.agg (evC e)] H (fun v H'=>v=.bool e.right∧Same H H'):=by
 refine fn_rule G.mixed G.event_Event_Right rfl [] (fun hcl=>?_)
 simp only [go_sem]
 have hs1:Same H (bmp 1 ((⟨H.f,H.k,[]⟩:AH).set ⟨0,H.k,0⟩ (.row 10 (cs (evC e))))):=(Same.mk1.tmp).bmp
 have hb1:(bmp 1 ((⟨H.f,H.k,[]⟩:AH).set ⟨0,H.k,0⟩ (.row 10 (cs (evC e))))).f ⟨0,H.k,0⟩=some (.row 10 (cs (evC e))):=by simp only [go_sem]
 have hk1:H.k<(bmp 1 ((⟨H.f,H.k,[]⟩:AH).set ⟨0,H.k,0⟩ (.row 10 (cs (evC e))))).k:=by show H.k<H.k+1; omega
 generalize (bmp 1 ((⟨H.f,H.k,[]⟩:AH).set ⟨0,H.k,0⟩ (.row 10 (cs [i64 e.kind,i64 e.n,i64 e.limit,i64 e.size,i64 e.refill,i64 e.account,i64 e.mem,i64 e.cost,i64 e.reserved,i64 e.keep]))))=H1 at *
 refine CA_s [] (event_parts_c G (kd:=e.kind) hb1 rfl) ?_
 rintro v1 H2 ⟨hp1,hs2⟩ _ _
 have hs2:Same H1 H2:=hs2.of_mk
 have hb2:H2.f ⟨0,H.k,0⟩=some (.row 10 (cs (evC e))):=(hs2.at_ _ (fun _=>hk1)).trans hb1
 have hk2:=hs2.k
 have hs12:=hs1.trans hs2
 simp only [go_sem,hb2]
 have hs3:Same H2 (bmp 1 ((⟨H2.f,H2.k,[]⟩:AH).set ⟨0,H2.k,0⟩ (.row 10 (cs [i64 e.kind,i64 0,i64 0,i64 0,i64 0,i64 0,i64 0,i64 0,i64 0,i64 0])))):=(Same.mk1.tmp).bmp
 have hb3:(bmp 1 ((⟨H2.f,H2.k,[]⟩:AH).set ⟨0,H2.k,0⟩ (.row 10 (cs [i64 e.kind,i64 0,i64 0,i64 0,i64 0,i64 0,i64 0,i64 0,i64 0,i64 0])))).f ⟨0,H2.k,0⟩=some (.row 10 (cs [i64 e.kind,i64 0,i64 0,i64 0,i64 0,i64 0,i64 0,i64 0,i64 0,i64 0])):=by simp only [go_sem]
 have hk3:H2.k<(bmp 1 ((⟨H2.f,H2.k,[]⟩:AH).set ⟨0,H2.k,0⟩ (.row 10 (cs [i64 e.kind,i64 0,i64 0,i64 0,i64 0,i64 0,i64 0,i64 0,i64 0,i64 0])))).k:=by show H2.k<H2.k+1; omega
 generalize (bmp 1 ((⟨H2.f,H2.k,[]⟩:AH).set ⟨0,H2.k,0⟩ (.row 10 (cs [i64 e.kind,i64 0,i64 0,i64 0,i64 0,i64 0,i64 0,i64 0,i64 0,i64 0]))))=H3 at *
 refine CA_s [] (event_parts_c G (kd:=e.kind) hb3 rfl) ?_
 rintro v2 H4 ⟨hp2,hs4⟩ _ _
 have hk4:=hs4.k
 have hs34:=hs3.trans hs4
 have hs14:=hs12.trans hs34
 have hb4:H4.f ⟨0,H.k,0⟩=some (.row 10 (cs (evC e))):=(hs34.at_ _ (fun _=>Int.lt_of_lt_of_le hk1 hk2)).trans hb2
 have hc4:H4.f ⟨0,H2.k,0⟩=some (.row 10 (cs [i64 e.kind,i64 0,i64 0,i64 0,i64 0,i64 0,i64 0,i64 0,i64 0,i64 0])):=(hs4.at_ _ (fun _=>hk3)).trans hb3
 have hR:=right_of (e:=e)
 unfold PartsAt at hp1 hp2
 cases hl:partsL e.kind with
 | none =>
  rw [hl] at hp1 hp2 hR
  simp only at hp1 hp2 hR
  subst hp1 hp2
  rw [hR]
  simp only [go_sem]
  refine C_loop (fun k l H'=>k=0∧l=[(1,.ptr ⟨0,H.k,0⟩ 0),(3,.nils),(4,.ptr ⟨0,H2.k,0⟩ 0),(5,.nils),(13,.nils),(14,i64 0),(15,i64 0)]∧Same H H') 0 ⟨rfl,rfl,hs14.mk'⟩ ?_
  rintro k l H5 ⟨rfl,rfl,hs5⟩ _ _
  refine ⟨[],?_⟩
  simp only [go_sem]
  refine EI_i (fun d=>?_) (fun d=>?_)
  ·simp at d
  simp only [go_sem]
  exact hs5.mk'
 | some l =>
  rw [hl] at hp1 hp2 hR
  simp only at hp1 hp2 hR
  obtain ⟨i1,hi1,hi1k,rfl,hr1⟩:=hp1
  obtain ⟨i2,hi2,hi2k,rfl,hr2⟩:=hp2
  obtain ⟨hlb,hl10⟩:=partsL_bd hl
  have hi2k':i2<H4.k:=hi2k
  have hr1':H4.f ⟨0,i1,0⟩=some (.row l.length (cs (l.map fun j=>.ptr ⟨0,H.k,0⟩ j))):=(hs34.at_ _ (fun _=>hi1k)).trans hr1
  rw [sameG_zero (l:=l)] at hc4
  rw [hR]
  have ex : ∀ (f:Nat→AV),∃ g:Nat→AV,(cs (l.map f)=g) ∧ ∀ j (h:j<l.length),g j=f l[j]:=fun f=>⟨_,rfl,fun j h=>by
   rw [cs_def,List.getD_eq_getElem?_getD,List.getElem?_map,List.getElem?_eq_getElem h]; rfl⟩
  obtain ⟨g1,e1,q1⟩:=ex fun j=>.ptr ⟨0,H.k,0⟩ j
  obtain ⟨g2,e2,q2⟩:=ex fun j=>.ptr ⟨0,H2.k,0⟩ j
  rw [e1] at hr1'
  rw [e2] at hr2
  have exE : ∃ g:Nat→AV,cs (evC e)=g ∧ ∀ q,q<10→g q=i64 (evI e q):=⟨_,rfl,fun q h=>by
   rcases q with _ | _ | _ | _ | _ | _ | _ | _ | _ | _ | q <;> first | rfl | omega⟩
  obtain ⟨gE,eE,qE⟩:=exE
  have hbE:H4.f ⟨0,H.k,0⟩=some (.row 10 gE):=by rw [← eE]; exact hb4
  clear e1 e2 eE ex
  simp only [go_sem]
  refine C_loop (fun k l' H' => ∃ (j:Nat) (r:List (Nat × AV)),j+k=l.length∧(∀ q∈l.take j,inr (evI e q))∧Same H H'∧H'.f ⟨0,H.k,0⟩=some (.row 10 gE)∧H'.f ⟨0,i1,0⟩=some (.row l.length g1) ∧
   H'.f ⟨0,H2.k,0⟩=some (.row 10 (sameG e l j))∧H'.f ⟨0,i2,0⟩=some (.row l.length g2) ∧
   l'=(1,.ptr ⟨0,H.k,0⟩ 0)::(3,.slice ⟨0,i1,0⟩ 1 0 l.length)::(4,.ptr ⟨0,H2.k,0⟩ 0)::(5,.slice ⟨0,i2,0⟩ 1 0 l.length)::(13,.slice ⟨0,i1,0⟩ 1 0 l.length)::(14,i64 (l.length:Int))::(15,i64 (j:Int))::r) l.length
   ⟨0,[],by omega,by simp,hs14.mk',hbE,hr1',hc4,hr2,rfl⟩ ?_
  rintro k l' H5 ⟨j,r,hj,hin,hs5,hb5,hq1,hc5,hq2,rfl⟩ _ _
  refine ⟨[],?_⟩
  simp only [go_sem]
  refine EI_i (fun d=>?_) (fun d=>?_)
  ·have d:j<l.length:=by simp at d; omega
   have q1:=q1 j d
   have q2:=q2 j d
   have h10:l[j]<10:=hl10 _ (List.getElem_mem d)
   have q3:=qE l[j] h10
   have i0:(0:Int)≤(j:Int):=by omega
   have i3:(j:Int)<(l.length:Int):=by omega
   have wj:=wrapS (i:=j) (by omega)
   have tk:l.take (j+1)=l.take j++[l[j]]:=List.take_succ_eq_append_getElem d
   simp only [go_sem,i0,i3,d,hq1,q1,q3,hb5,h10,Int.toNat_natCast,Nat.mul_one]
   have bad : ¬ inr (evI e l[j])→((l.all fun q=>decide (inr (evI e q)))&&eqEv e l)=false:=fun h=>by
    have:(l.all fun q=>decide (inr (evI e q)))=false:=by
     rw [List.all_eq_false]
     exact ⟨l[j],List.getElem_mem d,by simpa using h⟩
    rw [this]; rfl
   refine EI_i (fun d1=>?_) (fun d1=>?_)
   ·have:=bad (by simp at d1; unfold inr; omega)
    simp only [go_sem,hb5,q3,h10]
    rw [this]
    exact ⟨rfl,hs5.mk'⟩
   simp only [go_sem,hb5,q3,h10]
   refine EI_i (fun d2=>?_) (fun d2=>?_)
   ·have:=bad (by simp at d2; unfold inr; omega)
    simp only [go_sem]
    rw [this]
    exact ⟨rfl,hs5.mk'⟩
   have hix:inr (evI e l[j]):=by simp at d1 d2; unfold inr; omega
   simp only [go_sem,hb5,q3,h10,i0,i3,d,hq2,q2,hc5,Int.toNat_natCast,Nat.mul_one,wj]
   have m1:(⟨0,H.k,0⟩:Nm)≠⟨0,H2.k,0⟩:=fun h=>by simp at h; omega
   have m2:(⟨0,i1,0⟩:Nm)≠⟨0,H2.k,0⟩:=fun h=>by simp at h; omega
   have m3:(⟨0,i2,0⟩:Nm)≠⟨0,H2.k,0⟩:=fun h=>by simp at h; omega
   refine ⟨k-1,_,rfl,by omega,j+1,[],by omega,fun q hq=>?_,hs5.mk'.set (fun ho=>?_),by simp only [go_sem,m1]; exact hb5,by simp only [go_sem,m2]; exact hq1,by rw [sameG_step d h10],by simp only [go_sem,m3]; exact hq2,rfl⟩
   ·rw [tk] at hq
    rcases List.mem_append.1 hq with hq | hq
    ·exact hin q hq
    ·rw [List.mem_singleton.1 hq]; exact hix
   ·have:H2.k<H.k:=ho rfl
    omega
  ·have d:j=l.length:=by simp at d; omega
   subst d
   simp only [go_sem,hb5,hc5]
   have hs : ∀ q,q<10→sameG e l l.length q=i64 (sameI e l l.length q):=fun q h=>by unfold sameG; rw [if_pos h]
   rw [hs 0 (by decide),hs 1 (by decide),hs 2 (by decide),hs 3 (by decide),hs 4 (by decide),hs 5 (by decide),hs 6 (by decide),hs 7 (by decide),hs 8 (by decide),hs 9 (by decide),
    qE 0 (by decide),qE 1 (by decide),qE 2 (by decide),qE 3 (by decide),qE 4 (by decide),qE 5 (by decide),qE 6 (by decide),qE 7 (by decide),qE 8 (by decide),qE 9 (by decide)]
   have hall:(l.all fun q=>decide (inr (evI e q)))=true:=by
    rw [List.all_eq_true]
    intro q hq
    rw [List.take_length] at hin
    simpa using hin q hq
   rw [hall]
   simp only [go_sem,eqs]
   refine ⟨?_,hs5.mk'⟩
   have hc : ∀ q,(sameI e l l.length q==evI e q)=(evI e q==sameI e l l.length q):=fun q=>BEq.comm
   simp only [hc]
   unfold eqEv
   simp [List.range,List.range.loop]
end
end Go.Ab

namespace Gh
open CS
section
variable {s : CS}
structure Nx (n:Int) (s s':CS):Prop where
 ans:s'.ans=s.ans
 up:s'.next≤s.next+n
theorem Nx.refl (s:CS):Nx 0 s s:=⟨rfl,by omega⟩
theorem Nx.trans {a b:Int} {x y z:CS} (h:Nx a x y) (k:Nx b y z):Nx (a+b) x z:=⟨k.ans.trans h.ans,by have:=h.up; have:=k.up; omega⟩
theorem Nx.mono {a b:Int} {x y:CS} (h:Nx a x y) (hb:a≤b):Nx b x y:=⟨h.ans,by have:=h.up; omega⟩
theorem Nx.t0 {a:Int} {x y z:CS} (h:Nx 0 x y) (k:Nx a y z):Nx a x z:=⟨k.ans.trans h.ans,by have:=h.up; have:=k.up; omega⟩
theorem Nx.t1 {a:Int} {x y z:CS} (h:Nx a x y) (k:Nx 0 y z):Nx a x z:=⟨k.ans.trans h.ans,by have:=h.up; have:=k.up; omega⟩
theorem Nx.of {s s':CS} (h1:s'.ans=s.ans) (h2:s'.next=s.next):Nx 0 s s':=⟨h1,by omega⟩
theorem nx_qEnd (f:Int):Nx 0 s (s.qEnd f):=by unfold CS.qEnd; split <;> exact .of rfl rfl
theorem nx_qBegin (f:Int):Nx 0 s (s.qBegin f):=by unfold CS.qBegin; split <;> exact .of rfl rfl
theorem nx_setFn (f:Int) (g:Fnc→Fnc):Nx 0 s (s.setFn f g):=.of rfl rfl
theorem nx_ended (f:Int):Nx 0 s (s.ended f):=(nx_qEnd f).t0 (nx_setFn f _)
theorem nx_hGive (h m:Int):Nx 0 s (s.hGive h m):=by unfold CS.hGive; split <;> exact .of rfl rfl
theorem nx_hTake (h m:Int):Nx 0 s (s.hTake h m):=by unfold CS.hTake; split <;> exact .of rfl rfl
theorem nx_gone (b:Box):Nx 0 s (s.gone b):=by
 unfold CS.gone
 simp only
 have h1:Nx 0 s (s.take b):=.of rfl rfl
 have h2:Nx 0 s (if b.runs then (s.take b).ended b.fn else s.take b):=by
  split
  ·exact h1.t0 (nx_ended _)
  ·exact h1
 have h3:=h2.t0 (nx_hGive b.host b.mem)
 exact ⟨h3.ans,h3.up⟩
theorem nx_kill (b:Box):Nx 0 s (s.kill b):=⟨(nx_gone (s:=s) b).ans,(nx_gone (s:=s) b).up⟩
theorem nx_idle (b:Box) (t:Int):Nx 0 s (s.idle b t):=by
 unfold CS.idle
 split
 ·exact nx_kill b
 ·exact .of rfl rfl
theorem nx_start (f h:Int):Nx 1 s (s.start f h).1:=by
 have:=nx_hTake (s:=s) h (s.memOf f)
 exact ⟨this.ans,by show s.next+1≤_; omega⟩
theorem nx_evict (h m:Int) : ∀ n (s:CS),Nx 0 s (s.evict h m n):=by
 intro n
 induction n with
 | zero=>intro s; exact .refl s
 | succ n ih =>
  intro s
  simp only [CS.evict]
  split
  ·split
   ·exact .refl s
   ·split
    ·exact .refl s
    ·refine Nx.t0 ?_ (ih _)
     exact ⟨(nx_kill _).ans,(nx_kill _).up⟩
  ·exact .refl s
theorem nx_room (m:Int):Nx 0 s (s.room m).1:=by
 unfold CS.room
 split
 ·exact .refl s
 ·split
  ·exact .refl s
  ·exact nx_evict _ _ _ _
theorem nx_unpin (f:Int) (b:Box):Nx 0 s (s.unpin f b):=by
 unfold CS.unpin
 simp only
 split
 ·exact (Nx.of rfl rfl:Nx 0 s (s.setBox { b with pinned:=false })).t0 (nx_idle _ _)
 ·exact .of rfl rfl
theorem nx_fold {α:Type} {g:CS→α→CS} (hg : ∀ s a,Nx 0 s (g s a)) : ∀ (l:List α) (s:CS),Nx 0 s (l.foldl g s)
 | [],s=>.refl s
 | a::l,s=>(hg s a).t0 (nx_fold hg l (g s a))
theorem nx_pins (f:Int) (n:Nat):Nx n s (CS.pins f n s):=⟨(Ke.pins f n s).ans,pins_next n s⟩
theorem keepOf_le (k:Ok s) (f:Int):s.keepOf f≤1000:=by
 unfold CS.keepOf
 cases h:s.fns f with
 | none=>simp
 | some x =>
  have:=(k.w.f f x h).2.1.keep
  show x.keep.toNat≤1000
  omega
theorem nx_keep (f:Int) (h:s.keepOf f≤1000):Nx 1000 s (s.keep f):=by
 unfold CS.keep
 simp only
 have h1:Nx 0 s (((s.pinned f).drop (s.keepOf f)).reverse.foldl (fun s b=>s.unpin f b) s):=nx_fold (fun s b=>nx_unpin f b) _ _
 exact h1.t0 ((nx_pins f _).mono (by omega))
theorem nx_keeps : ∀ (l:List Int) (s:CS),(∀ f,s.keepOf f≤1000)→Nx (1000*l.length) s (l.foldl (fun s f=>s.keep f) s)
 | [],s,_=>.refl s
 | f::l,s,h=>((nx_keep f (h f)).trans (nx_keeps l (s.keep f) fun g=>by rw [(Ke.keep s f).keepOf]; exact h g)).mono (by simp only [List.length_cons]; omega)
theorem nx_keepAll (k:Ok s):Nx 64000 s s.keepAll:=by
 rw [keepAll_eq]
 refine (nx_keeps _ _ fun f=>keepOf_le k f).mono ?_
 have:(Go.Ab.fnIds s).length≤64:=by
  unfold Go.Ab.fnIds
  refine Nat.le_trans (List.length_filter_le ..) ?_
  simp
 omega
def bts (s:CS):Int:=sumN (gB s.boots) 64
theorem bts_bd:0≤bts s∧bts s≤64:=by
 unfold bts
 have : ∀ n,0≤sumN (gB s.boots) n∧sumN (gB s.boots) n≤n:=by
  intro n
  induction n with
  | zero=>simp [sumN]
  | succ n ih =>
   have h1:=gB_nn (boots:=s.boots) n
   have h2:gB s.boots n≤1:=by unfold gB; split <;> omega
   simp only [sumN]; omega
 exact this 64
theorem bootAhead_nx (f:Int):Nx 1 s (s.bootAhead f)∧(s.bootAhead f).boots=s.boots:=by
 unfold CS.bootAhead
 split
 ·exact ⟨(Nx.refl s).mono (by omega),rfl⟩
 ·cases s.fns f with
  | none=>exact ⟨(Nx.refl s).mono (by omega),rfl⟩
  | some x =>
   simp only
   cases s.fit x.mem with
   | none=>exact ⟨(Nx.refl s).mono (by omega),rfl⟩
   | some h =>
    simp only
    have h1:=nx_start (s:=s) f h
    refine ⟨⟨h1.ans,h1.up⟩,?_⟩
    show (s.hTake h (s.memOf f)).boots=_
    unfold CS.hTake; split <;> rfl
theorem fire1_nx (k:Ok s) {s1:CS} (h:fire1 s=some s1):s1.ans=s.ans∧s1.next+bts s1≤s.next+bts s:=by
 unfold Gh.fire1 at h
 cases hd:s.due with
 | none=>rw [hd] at h; cases h
 | some x =>
  obtain ⟨t,kd,id⟩:=x
  rw [hd] at h
  simp only at h
  have hm:=due_mem hd
  split at h
  ·cases hf:s.find id with
   | none=>rw [hf] at h; cases h
   | some b =>
    rw [hf] at h
    simp only [Option.some.injEq] at h
    subst h
    have h1:=nx_kill (s:={ s with ends:=ups s.ends id none }) b
    have h2:=gone_worth { s with ends:=ups s.ends id none } b
    refine ⟨h1.ans,?_⟩
    have e:bts ((({ s with ends:=ups s.ends id none }):CS).kill b)=bts s:=by
     show sumN (gB (CS.gone { s with ends:=ups s.ends id none } b).boots) 64=_
     rw [h2.2.2.2.1]; rfl
    rw [e]
    have:=h1.up
    show _≤_
    have e2:({ s with ends:=ups s.ends id none }:CS).next=s.next:=rfl
    omega
  ·rename_i hk
   simp only [Option.some.injEq] at h
   subst h
   obtain ⟨_,hbo⟩:=times_boots hk hm.1
   obtain ⟨_,y,hy⟩:=k.w.o id t hbo
   have hid:=(k.w.f id y hy).1
   have h1:=bootAhead_nx (s:={ s with boots:=ups s.boots id none }) id
   refine ⟨h1.1.ans,?_⟩
   have e:bts (({ s with boots:=ups s.boots id none }:CS).bootAhead id)=bts s-1:=by
    unfold bts
    rw [h1.2]
    show sumN (gB (ups s.boots id none)) 64=_
    rw [gB_ups hid.1,sumN_up (by omega)]
    have:gB s.boots id.toNat=1:=by unfold gB; rw [Int.toNat_of_nonneg hid.1,hbo]; rfl
    omega
   rw [e]
   have:=h1.1.up
   have e2:({ s with boots:=ups s.boots id none }:CS).next=s.next:=rfl
   omega
theorem fire_nx : ∀ n {s:CS},Ok s→(s.fire n).ans=s.ans∧(s.fire n).next+bts (s.fire n)≤s.next+bts s:=by
 intro n
 induction n with
 | zero=>intro s k; exact ⟨rfl,Int.le_refl _⟩
 | succ n ih =>
  intro s k
  rw [fire_eq]
  cases h:Gh.fire1 s with
  | none=>exact ⟨rfl,Int.le_refl _⟩
  | some s1 =>
   have h1:=fire1_nx k h
   have h2:=ih (k.fire1 h)
   exact ⟨h2.1.trans h1.1,Int.le_trans h2.2 h1.2⟩
theorem nx_fire (k:Ok s) (n:Nat):Nx 64 s (s.fire n):=by
 have h:=fire_nx n k
 have h1:=bts_bd (s:=s)
 have h2:=bts_bd (s:=s.fire n)
 exact ⟨h.1,by omega⟩
theorem nx_tick (k:Ok s):Nx 64064 s s.tick:=by
 rw [tick_eq]
 split
 ·exact (Nx.refl s).mono (by omega)
 ·rename_i h
  have h0:Nx 0 s (Gh.tick0 s):=.of rfl rfl
  exact h0.t0 (((nx_fire (k.tick0 h) _).trans (nx_keepAll ((k.tick0 h).fire _))).mono (by omega))
theorem nx_setAccount (a l:Int):Nx 0 s (s.setAccount a l).1:=by
 unfold CS.setAccount
 split
 ·exact .refl s
 ·split
  ·exact .refl s
  ·exact .of rfl rfl
theorem nx_account (e:Ev):Nx 0 s (s.account e).1:=by
 rw [account_eq]
 split
 ·exact .refl s
 ·have h:=nx_setAccount (s:=s) e.n e.limit
  split
  ·exact h
  ·exact ⟨h.ans,h.up⟩
theorem nx_setFunc (f a r:Int):Nx 0 s (s.setFunc f a r).1:=by
 unfold CS.setFunc
 repeat' split
 all_goals first
  | exact .refl s
  | exact .of rfl rfl
theorem nx_function (k:Ok s) (e:Ev) (hk:0≤e.keep):Nx 1000 s (s.function e).1:=by
 rw [function_eq]
 have z:Nx 1000 s s:=(Nx.refl s).mono (by omega)
 split
 ·exact z
 ·split
  ·exact z
  ·split
   ·exact z
   ·split
    ·exact z
    ·have h:=nx_setFunc (s:=s) e.n e.account e.reserved
     split
     ·exact h.mono (by omega)
     ·rename_i h1 h2 h3 h4 h5
      obtain ⟨k1,hx⟩:=k.funcS hk h1 h2 h3 (by simpa using h5)
      have h6:Nx 0 s (funcS s e):=⟨h.ans,h.up⟩
      exact h6.t0 (nx_keep _ (keepOf_le k1 _))
theorem nx_hAdd (h z:Int):Nx 0 s (s.hAdd h z).1:=by
 unfold CS.hAdd
 split
 ·exact .refl s
 ·split
  ·exact .refl s
  ·exact .of rfl rfl
theorem nx_host (k:Ok s) (e:Ev):Nx 64000 s (s.host e).1:=by
 rw [host_eq]
 have h:=nx_hAdd (s:=s) e.n e.size
 split
 ·exact h.mono (by omega)
 ·rename_i he
  have h2:=nx_keepAll (k.hAdd (by simpa using he))
  exact h.t0 ⟨h2.ans,h2.up⟩
theorem nx_hDrain (h:Int):Nx 0 s (s.hDrain h).1:=by
 unfold CS.hDrain
 split
 ·exact .refl s
 ·split
  ·exact .refl s
  ·exact .of rfl rfl
theorem nx_drainS (b:Box):Nx 0 s (drainS s b):=by
 unfold Gh.drainS
 split
 ·exact .of rfl rfl
 ·exact nx_kill b
theorem nx_drain (k:Ok s) (h:Int):Nx 64000 s (s.drain h).1:=by
 rw [drain_eq]
 have h0:=nx_hDrain (s:=s) h
 split
 ·exact h0.mono (by omega)
 ·rename_i he
  have k1:=k.hDrain (h:=h) (by simpa using he)
  have k2:=fold_ok (fun s b k hb=>k.drainS hb) (fun s y b hb h=>drainS_keep hb h) _ _ k1 (pick_srt k1 fun b=>b.host==h) (pick_sub _)
  exact h0.t0 ((nx_fold (fun s b=>nx_drainS b) _ _).t0 (nx_keepAll k2))
theorem nx_fail (k:Ok s) (h:Int):Nx 64000 s (s.fail h).1:=by
 rw [fail_eq]
 split
 ·exact (Nx.refl s).mono (by omega)
 ·have h1:Nx 0 s (failS s h):=by
   have h2:Nx 0 s ((s.pick fun b=>b.host==h).foldl (fun s b=>s.gone b) s):=nx_fold (fun s b=>nx_gone b) _ _
   unfold Gh.failS
   split
   ·exact ⟨h2.ans,h2.up⟩
   ·exact h2
  exact h1.t0 (nx_keepAll (k.failS h))
theorem nx_broke (k:Ok s) (id:Int):Nx 1000 s (s.broke id).1:=by
 unfold CS.broke
 cases hf:s.find id with
 | none=>exact (Nx.refl s).mono (by omega)
 | some b =>
  obtain ⟨hb,rfl⟩:=find_some hf
  exact (nx_gone b).t0 (nx_keep _ (keepOf_le (k.gone hb) _))
theorem nx_booted (id:Int):Nx 0 s (s.booted id).1:=by
 rw [booted_eq]
 cases hf:s.find id with
 | none=>exact .refl s
 | some b =>
  simp only
  split
  ·exact .refl s
  ·have h:Nx 0 s (btS s b):=.of rfl rfl
   split
   ·exact h.t0 (nx_idle _ _)
   ·exact h
theorem nx_done (id:Int):Nx 0 s (s.done id).1:=by
 unfold CS.done
 cases hf:s.find id with
 | none=>exact .refl s
 | some b =>
  simp only
  split
  ·exact .refl s
  ·have h0:Nx 0 s ((s.setBox { b with st:=1,since:=s.now }).ended b.fn):=(Nx.of rfl rfl:Nx 0 s (s.setBox { b with st:=1,since:=s.now })).t0 (nx_ended _)
   generalize (s.setBox { b with st:=1,since:=s.now }).ended b.fn=s1 at h0
   simp only
   split
   ·exact h0.t0 (nx_kill _)
   ·split
    ·exact h0
    ·split
     ·exact h0.t0 ⟨(nx_kill _).ans,(nx_kill _).up⟩
     ·exact h0.t0 (nx_idle _ _)
theorem nx_begin (f:Int) (b:Box):Nx 0 s (s.begin f b):=by
 have h : ∀ (g:Fnc→Fnc) (bo:Int→Option Int),Nx 0 s ((({ (s.setFn f g) with boots:=bo }:CS)).qBegin f):=fun g bo=>(Nx.of rfl rfl:Nx 0 s ({ (s.setFn f g) with boots:=bo }:CS)).t0 (nx_qBegin _)
 unfold CS.begin
 exact ⟨(h _ _).ans,(h _ _).up⟩
theorem nx_call (f:Int):Nx 1 s (s.call f).1∧0≤(s.call f).2.kind∧(s.call f).2.kind≤4:=by
 have z:Nx 1 s s:=(Nx.refl s).mono (by omega)
 have d : ∀ a:Ans,0≤a.kind∧a.kind≤4→Nx 1 s ((s,a):CS × Ans).1∧0≤((s,a):CS × Ans).2.kind∧((s,a):CS × Ans).2.kind≤4:=fun a h=>⟨z,h⟩
 unfold CS.call
 cases ha:s.ask f with
 | none=>exact d _ (by decide)
 | some why =>
  simp only
  split
  ·exact d _ (by decide)
  ·split
   ·exact d _ (by decide)
   ·cases hb:s.freeBox f with
    | some b=>exact ⟨(nx_begin _ _).mono (by omega),by simp only; omega,by simp only; omega⟩
    | none =>
     cases hx:s.fns f with
     | none=>exact d _ (by decide)
     | some x =>
      simp only
      cases ht:s.tok x.account with
      | none=>exact d _ (by decide)
      | some t =>
       simp only
       split
       ·exact d _ (by decide)
       ·have hr:=nx_room (s:=s) x.mem
        cases hq:s.room x.mem with
        | mk s1 oh =>
         rw [hq] at hr
         cases oh with
         | none=>exact d _ (by decide)
         | some h =>
          simp only
          refine ⟨?_,by omega,by omega⟩
          have h1:Nx 1 s1 (({ s1 with tok:=ups s1.tok x.account (some { t with tokens:=t.tokens-1 }) }:CS).start f h).1:=⟨(nx_start _ _).ans,(nx_start _ _).up⟩
          exact (hr.t0 h1).t1 (nx_begin _ _)
theorem nx_act (k:Ok s) (e:Ev) (hk:0≤e.keep):Nx 64064 s (s.act e).1∧0≤(s.act e).2.kind∧(s.act e).2.kind≤4:=by
 unfold CS.act
 simp only
 have hkd : ∀ n:Int,0≤(if n≠0 then (⟨1,0,0,n⟩:Ans) else ⟨0,0,0,0⟩).kind∧(if n≠0 then (⟨1,0,0,n⟩:Ans) else ⟨0,0,0,0⟩).kind≤4:=by
  intro n; split <;> simp
 split
 ·exact ⟨nx_tick k,by simp,by simp⟩
 split
 ·exact ⟨(nx_account e).mono (by omega),hkd _⟩
 split
 ·exact ⟨(nx_function k e hk).mono (by omega),hkd _⟩
 split
 ·exact ⟨(nx_host k e).mono (by omega),hkd _⟩
 split
 ·exact ⟨(nx_drain k _).mono (by omega),hkd _⟩
 split
 ·exact ⟨(nx_fail k _).mono (by omega),hkd _⟩
 split
 ·exact ⟨(nx_call _).1.mono (by omega),(nx_call _).2⟩
 split
 ·exact ⟨(nx_booted _).mono (by omega),hkd _⟩
 split
 ·exact ⟨(nx_broke k _).mono (by omega),hkd _⟩
 ·exact ⟨(nx_done _).mono (by omega),hkd _⟩
structure Rn (n:Int) (s:CS):Prop where
 ok:Ok s
 next:s.next≤1+64064*n
 ans : ∀ i,0≤s.ans i∧s.ans i≤n
theorem Rn.init:Rn 0 {}:=⟨Ok.init,by decide,fun i=>⟨Int.le_refl _,Int.le_refl _⟩⟩
theorem Rn.mono {n m:Int} {s:CS} (h:Rn n s) (hm:n≤m):Rn m s:=⟨h.ok,by have:=h.next; omega,fun i=>by have:=h.ans i; omega⟩
theorem Rn.step {n:Int} {s:CS} (h:Rn n s) (e:Ev):Rn (n+1) (s.step e).1:=by
 have k:=h.ok.step e
 refine ⟨k,?_,fun i=>?_⟩
 ·unfold CS.step
  split
  ·have:=h.next; show s.next≤_; omega
  ·rename_i hr
   have:=(nx_act h.ok.out' e (right_keep (by simpa using hr))).1.up
   have h2:=h.next
   have e2:({ s with out:=[] }:CS).next=s.next:=rfl
   show (CS.act { s with out:=[] } e).1.next≤_
   omega
 ·unfold CS.step
  split
  ·have:=h.ans i; show 0≤s.ans i∧s.ans i≤_; omega
  ·rename_i hr
   have h1:=(nx_act h.ok.out' e (right_keep (by simpa using hr))).1.ans
   have h3:(CS.act { s with out:=[] } e).1.ans=s.ans:=h1
   show 0≤upn (CS.act { s with out:=[] } e).1.ans _ _ i∧upn (CS.act { s with out:=[] } e).1.ans _ _ i≤_
   rw [h3]
   unfold upn
   split
   ·rename_i e; rw [← e]; have:=h.ans i; omega
   ·have:=h.ans i; omega
end
end Gh

namespace Go.Ab
open Go Gh
variable {P : Program} {F : Nums}
section
variable {c : Nat} {o o' : AV} {H H' A B : AH} {s s' s2 : CS}
structure DoneAt (F:Nums) (c:Nat) (H:AH) (a:Ans) (out:List Cmd) (s':CS) (v:AV) (H':AH):Prop where
 ex : ∃ w o',v=.tup [.agg (ansC a),w]∧CoreAt F c o' s' H'∧OutAt w out H' ∧ ∀ n,isOut w n→n.t=0∧H.k≤n.i
 fra:Fra (inCt c) H H'
theorem coreC_ans {q:Nat} (h:q<5) {v:Int}:cs (coreC c s o) (11+q)=i64 (s.ans q)∧upd (cs (coreC c s o)) (11+q) (i64 v)=cs (coreC c { s with ans:=upn s.ans q v } o):=by
 rcases q with _ | _ | _ | _ | _ | q
 ·exact ⟨rfl,by rw [upd_cs (by simp)]; rfl⟩
 ·exact ⟨rfl,by rw [upd_cs (by simp)]; rfl⟩
 ·exact ⟨rfl,by rw [upd_cs (by simp)]; rfl⟩
 ·exact ⟨rfl,by rw [upd_cs (by simp)]; rfl⟩
 ·exact ⟨rfl,by rw [upd_cs (by simp)]; rfl⟩
 ·omega
theorem core_Do_c (E:EnvK P F) {n:Int} (r:Rn n s) (hn:n≤10000) {e:Ev} (hc:CoreAt F c o s H) :
  ACalls P F.core_Do [.ptr (nC c) 0,.agg (evC e)] H (fun v H'=>DoneAt F c H (s.step e).2.1 (s.step e).2.2 (s.step e).1 v H'):=by
 refine fn_rule E.e.g.mixed E.e.g.core_Do rfl [] (fun hcl=>?_)
 have hs1:Same H (bmp 2 (((⟨H.f,H.k,[]⟩:AH).set ⟨0,H.k,0⟩ (.row 10 (cs (evC e)))).set ⟨0,H.k,1⟩ (.row 4 (cs [i64 0,i64 0,i64 0,i64 0])))):=((Same.mk1.tmp).tmp' (Int.le_refl _)).bmp
 have hc1:=hc.same hs1
 have hb1:(bmp 2 (((⟨H.f,H.k,[]⟩:AH).set ⟨0,H.k,0⟩ (.row 10 (cs (evC e)))).set ⟨0,H.k,1⟩ (.row 4 (cs [i64 0,i64 0,i64 0,i64 0])))).f ⟨0,H.k,0⟩=some (.row 10 (cs (evC e))):=by simp only [go_sem,show (⟨0,H.k,0⟩:Nm)≠⟨0,H.k,1⟩ from fun e=>by simp at e]
 have hw1:(bmp 2 (((⟨H.f,H.k,[]⟩:AH).set ⟨0,H.k,0⟩ (.row 10 (cs (evC e)))).set ⟨0,H.k,1⟩ (.row 4 (cs [i64 0,i64 0,i64 0,i64 0])))).f ⟨0,H.k,1⟩=some (.row 4 (cs [i64 0,i64 0,i64 0,i64 0])):=by simp only [go_sem]
 have hk1:H.k<(bmp 2 (((⟨H.f,H.k,[]⟩:AH).set ⟨0,H.k,0⟩ (.row 10 (cs (evC e)))).set ⟨0,H.k,1⟩ (.row 4 (cs [i64 0,i64 0,i64 0,i64 0])))).k:=by show H.k<H.k+1; omega
 refine W_cut0 ?_
 simp only [go_sem]
 generalize hH1:(bmp 2 (((⟨H.f,H.k,[]⟩:AH).set ⟨0,H.k,0⟩ (.row 10 (cs (evC e)))).set ⟨0,H.k,1⟩ (.row 4 (cs [i64 0,i64 0,i64 0,i64 0]))))=H1 at *
 refine RT_i ?_
 simp only [go_sem,hb1]
 refine CA_s [] (event_Right_c E.e.g) ?_
 rintro _ H2 ⟨rfl,hs2⟩ _ _
 have hs2:Same H1 H2:=hs2
 have hb2:H2.f ⟨0,H.k,0⟩=some (.row 10 (cs (evC e))):=(hs2.at_ _ (fun _=>hk1)).trans hb1
 have hw2:H2.f ⟨0,H.k,1⟩=some (.row 4 (cs [i64 0,i64 0,i64 0,i64 0])):=(hs2.at_ _ (fun _=>hk1)).trans hw1
 have hs12:=hs1.trans hs2
 have hc2:=hc.same hs12
 have hk2:=hs2.k
 simp only [go_sem]
 unfold CS.step
 refine EI_i (fun d=>?_) (fun d=>?_)
 ·rw [if_pos (by simpa using d)]
  simp only [go_sem,hw2]
  have hs3:Same H ((⟨H2.f,H2.k,[]⟩:AH).set ⟨0,H.k,1⟩ (.row 4 (cs [i64 1,i64 0,i64 0,i64 1]))):=(hs12.mk' (s:=[])).tmp' (Int.le_refl _)
  exact ⟨⟨.nils,o,rfl,hc.same hs3,.inl ⟨rfl,rfl⟩,fun n ⟨_,e⟩=>by cases e⟩,hs3.fra⟩
 have hR:e.right=true:=by simpa using d
 rw [if_neg (by simpa using d)]
 have n1:(⟨0,H.k,0⟩:Nm)≠nC c:=fun e=>tg_ne0 (congrArg Nm.t e).symm
 have n2:(⟨0,H.k,1⟩:Nm)≠nC c:=fun e=>tg_ne0 (congrArg Nm.t e).symm
 have hf3:Fra (At (nC c)) H2 ((⟨H2.f,H2.k,[]⟩:AH).set (nC c) (.row 16 (cs (coreC c { s with out:=[] } .nils)))):=Fra.mk1.s1
 have hc3:CoreAt F c .nils { s with out:=[] } ((⟨H2.f,H2.k,[]⟩:AH).set (nC c) (.row 16 (cs (coreC c { s with out:=[] } .nils)))) :=
  hc2.out' (hf3.mono fun n h=>.inl h) (by simp only [go_sem]) (.inl ⟨rfl,rfl⟩)
 have k3:=r.ok.out'
 have hkp:=right_keep hR
 obtain ⟨nx,kd0,kd4⟩:=nx_act k3 e hkp
 have hnx:=r.next
 have hup:=nx.up
 have hans:=nx.ans
 have e2:({ s with out:=[] }:CS).next=s.next:=rfl
 have e3:({ s with out:=[] }:CS).ans=s.ans:=rfl
 have hw3:((⟨H2.f,H2.k,[]⟩:AH).set (nC c) (.row 16 (cs (coreC c { s with out:=[] } .nils)))).f ⟨0,H.k,1⟩=some (.row 4 (cs [i64 0,i64 0,i64 0,i64 0])):=by simp only [go_sem,n2]; exact hw2
 simp only [go_sem,hc2.core,hb2,n1]
 refine CA_s [] (core_act_c E k3 (e:=e) hkp (by omega) (by omega) hc3) ?_
 rintro _ H4 ⟨rfl,o4,h4⟩ _ _
 have hk4:=h4.fra.k
 have hk4:H2.k≤H4.k:=hk4
 have hw4:H4.f ⟨0,H.k,1⟩=some (.row 4 (cs [i64 0,i64 0,i64 0,i64 0])):=by
  rw [h4.fra.at_ _ (fun _=>Int.lt_of_lt_of_le hk1 hk2) (fun hh=>?_)]
  ·exact hw3
  ·rcases hh with hh | ⟨_,hh⟩
   ·have:(0:Nat) / 64=c+1:=hh
    omega
   ·cases hh
 generalize hp:CS.act { s with out:=[] } e=p at *
 obtain ⟨s4,a⟩:=p
 have hc4:=h4.at_
 have hs5:Same H4 (bmp 1 ((⟨H4.f,H4.k,[]⟩:AH).set ⟨0,H4.k,0⟩ (.row 4 (cs (ansC a))))):=(Same.mk1.tmp).bmp
 have hb5:(bmp 1 ((⟨H4.f,H4.k,[]⟩:AH).set ⟨0,H4.k,0⟩ (.row 4 (cs (ansC a))))).f ⟨0,H4.k,0⟩=some (.row 4 (cs (ansC a))):=by simp only [go_sem]
 have hk5:H4.k<(bmp 1 ((⟨H4.f,H4.k,[]⟩:AH).set ⟨0,H4.k,0⟩ (.row 4 (cs (ansC a))))).k:=by show H4.k<H4.k+1; omega
 have i5:a.kind<(5:Nat):=by have:=kd4; simp only at this; omega
 simp only [go_sem,kd0,i5]
 refine ⟨by have:=kd4; simp only at this; omega,?_⟩
 have hkN:a.kind.toNat<5:=by omega
 have hc5:=hc4.same hs5
 obtain ⟨q1,q2⟩:=coreC_ans (c:=c) (s:=s4) (o:=o4) hkN (v:=s4.ans a.kind.toNat+1)
 rw [Nat.mul_one]
 have han:s4.ans=s.ans:=by have h:=nx.ans; exact h
 have hbd:=r.ans a.kind.toNat
 refine CA_s [] (tally_Add_c E.e.g (n:=nC c) hc5.core (by omega) q1 tg_ne0 (by rw [han]; omega) (by decide)) ?_
 rintro _ H6 ⟨rfl,hr6,hf6⟩ _ _
 rw [q2] at hr6
 have hc6:CoreAt F c o4 { s4 with ans:=upn s4.ans a.kind.toNat (s4.ans a.kind.toNat+1) } H6:=hc5.row' (a:=s4.now) hf6 hr6
 have hk6:=hf6.k
 generalize (bmp 1 ((⟨H4.f,H4.k,[]⟩:AH).set ⟨0,H4.k,0⟩ (.row 4 (cs (ansC a)))))=H5 at *
 have m1:(⟨0,H4.k,0⟩:Nm)≠nC c:=fun e=>tg_ne0 (congrArg Nm.t e).symm
 have hb6:H6.f ⟨0,H4.k,0⟩=some (.row 4 (cs (ansC a))):=(hf6.at_ _ (fun _=>hk5) m1).trans hb5
 have hkH:H.k<H4.k:=Int.lt_of_lt_of_le hk1 (Int.le_trans hk2 hk4)
 have hw6:H6.f ⟨0,H.k,1⟩=some (.row 4 (cs [i64 0,i64 0,i64 0,i64 0])):=(hf6.at_ _ (fun _=>Int.lt_trans hkH hk5) n2).trans ((hs5.at_ _ (fun _=>hkH)).trans hw4)
 have hn6:nC c≠⟨0,H.k,1⟩:=Ne.symm n2
 have hcr7:((⟨H6.f,H6.k,[]⟩:AH).set ⟨0,H.k,1⟩ (.row 4 (cs (ansC a)))).f (nC c)=H6.f (nC c):=by simp only [go_sem,hn6]
 simp only [go_sem,hb6,hc6.core,hw6,hn6,holdsOk_cons,gd_none,pureV,forall_const,fr_lkp,and_self]
 have hno : ¬ isOut o4 ⟨0,H.k,1⟩:=fun h=>by
  rcases h4.out _ h with ⟨_,e⟩ | ⟨_,e⟩
  ·cases e
  ·have e:H2.k≤H.k:=e
   omega
 have hc7:=hc6.tset (l:=[]) (ob:=.row 4 (cs (ansC a))) hno
 refine ⟨⟨o4,o4,rfl,hc7,hc7.out,fun n h=>?_⟩,?_⟩
 ·rcases h4.out _ h with ⟨_,e⟩ | ⟨e0,e⟩
  ·cases e
  ·have e:H2.k≤n.i:=e
   exact ⟨e0,by omega⟩
 ·have f1:Fra (inCt c) H H4:=(hs12.fra.trans (hf3.mono fun n h=>in_at (by decide) rfl h)).trans (h4.fra.mono fun n h=>by
   rcases h with h | ⟨_,h⟩
   ·exact h
   ·cases h)
  have f2:Fra (inCt c) H H6:=(f1.trans hs5.fra).trans (hf6.mono fun n h=>in_at (by decide) rfl h)
  exact (f2.mk' (s:=[])).set (.inr fun ho=>by have h0:H.k<H.k:=ho rfl; omega)
end
end Go.Ab

namespace Go.Ab
open Go Gh
variable {P : Program} {F : Nums}
section
variable {c : Nat} {H : AH}
theorem core_New_c (G:Good P F) (h0 : ∀ n,inCt c n→H.f n=none) :
  ACalls P F.core_New [] H (fun v H'=>v=.ptr (nC c) 0∧CoreAt F c .nils {} H'∧Fra (inCt c) H H'):=by
 refine fn_rule G.mixed G.core_New rfl [] (fun hcl=>?_)
 have fr : ∀ (H':AH) (S:Nm→Prop),Fra S H H' → ∀ n,inCt c n → ¬ S n→H'.f n=none:=fun H' S hf n hn hs=>(hf.at_ n (old_of (fun e=>by have:n.t / 64=c+1:=hn; rw [e] at this; omega)) hs).trans (h0 n hn)
 have i : ∀ k,k<64 → ∀ a b,inCt c ⟨tg c k,a,b⟩:=fun k hk a b=>inCt_of hk rfl
 simp only [go_sem]
 refine CA_s [nTok c,nFns c] (quota_New_c G (n:=nQ c) tg_ne0 (h0 _ (i 2 (by decide) _ _))) ?_
 rintro _ H1 ⟨rfl,hq1,hf1⟩ _ _
 have hf1:Fra (At (nQ c)) H H1:=hf1.of_mk
 have a1:=fr _ _ hf1 (nTok c) (i 3 (by decide) _ _) (fun e=>by have:=congrArg Nm.t e; simp [tg_inj] at this)
 have a2:=fr _ _ hf1 (nFns c) (i 5 (by decide) _ _) (fun e=>by have:=congrArg Nm.t e; simp [tg_inj] at this)
 have b1:nFns c≠nTok c:=fun e=>by have:=congrArg Nm.t e; simp [tg_inj] at this
 have b2:(nTok c).t≠0:=tg_ne0
 have b3:(nFns c).t≠0:=tg_ne0
 simp only [go_sem,a1,a2,b1,b2,b3]
 have T : ∀ (k k':Nat),k≠k' → ∀ a b a' b',(⟨tg c k,a,b⟩:Nm)≠⟨tg c k',a',b'⟩:=fun k k' h a b a' b' e=>by have:=congrArg Nm.t e; simp only [tg_inj] at this; exact h this
 have hf2:Fra (fun n=>n.t=tg c 2∨n.t=tg c 3∨n.t=tg c 5) H (bmp 2 (((⟨H1.f,H1.k,[nTok c,nFns c]⟩:AH).set (nTok c) (.mp 1 fun _=>none)).set (nFns c) (.mp 1 fun _=>none))) :=
  (((hf1.mono (S':=fun n=>n.t=tg c 2∨n.t=tg c 3∨n.t=tg c 5) fun n h=>.inl (by rw [h])).mk'.set (.inl (.inr (.inl rfl)))).set (.inl (.inr (.inr rfl)))).bmp
 have q2:(bmp 2 (((⟨H1.f,H1.k,[nTok c,nFns c]⟩:AH).set (nTok c) (.mp 1 fun _=>none)).set (nFns c) (.mp 1 fun _=>none))).f (nQ c)=some (.row 288 (ledG (fun _=>{}) fun _=>{})):=by simp only [go_sem,T 2 3 (by decide),T 2 5 (by decide)]; exact hq1
 have t2:(bmp 2 (((⟨H1.f,H1.k,[nTok c,nFns c]⟩:AH).set (nTok c) (.mp 1 fun _=>none)).set (nFns c) (.mp 1 fun _=>none))).f (nTok c)=some (.mp 1 fun _=>none):=by simp only [go_sem,T 3 5 (by decide)]
 have f2:(bmp 2 (((⟨H1.f,H1.k,[nTok c,nFns c]⟩:AH).set (nTok c) (.mp 1 fun _=>none)).set (nFns c) (.mp 1 fun _=>none))).f (nFns c)=some (.mp 1 fun _=>none):=by simp only [go_sem]
 generalize (bmp 2 (((⟨H1.f,H1.k,[nTok c,nFns c]⟩:AH).set (nTok c) (.mp 1 fun _=>none)).set (nFns c) (.mp 1 fun _=>none)))=H2 at *
 refine CA_s [nCaches c,nBoxes c,nAhead c] (host_New_c G (n:=nHosts c) tg_ne0 (fr _ _ hf2 (nHosts c) (i 9 (by decide) _ _) (by simp [tg_inj]))) ?_
 rintro _ H3 ⟨rfl,h3,hf3⟩ _ _
 have g3 : ∀ n:Nm,n.t≠0→n.t≠tg c 9→H3.f n=H2.f n:=fun n h0 h9=>hf3.at_ n (old_of h0) (fun e=>h9 (congrArg Nm.t e))
 have q3:=(g3 (nQ c) tg_ne0 (by simp [tg_inj])).trans q2
 have t3:=(g3 (nTok c) tg_ne0 (by simp [tg_inj])).trans t2
 have f3:=(g3 (nFns c) tg_ne0 (by simp [tg_inj])).trans f2
 have hf3':Fra (fun n=>n.t=tg c 2∨n.t=tg c 3∨n.t=tg c 5∨n.t=tg c 9) H H3:=(hf2.mono fun n h=>by
  rcases h with h | h | h
  ·exact .inl h
  ·exact .inr (.inl h)
  ·exact .inr (.inr (.inl h))).trans (hf3.mono fun n h=>.inr (.inr (.inr (by rw [h]))))
 have a3:=fr _ _ hf3' (nCaches c) (i 10 (by decide) _ _) (by simp [tg_inj])
 have a4:=fr _ _ hf3' (nBoxes c) (i 15 (by decide) _ _) (by simp [tg_inj])
 have a5:=fr _ _ hf3' (nAhead c) (i 17 (by decide) _ _) (by simp [tg_inj])
 have b4:(nCaches c).t≠0:=tg_ne0
 have b5:(nBoxes c).t≠0:=tg_ne0
 have b6:(nAhead c).t≠0:=tg_ne0
 simp only [go_sem,a3,a4,a5,b4,b5,b6,T 15 10 (by decide),T 17 10 (by decide),T 17 15 (by decide)]
 have hf4:Fra (fun n=>n.t=tg c 2∨n.t=tg c 3∨n.t=tg c 5∨n.t=tg c 9∨n.t=tg c 10∨n.t=tg c 15∨n.t=tg c 17) H (bmp 3 ((((⟨H3.f,H3.k,[nCaches c,nBoxes c,nAhead c]⟩:AH).set (nCaches c) (.mp 1 fun _=>none)).set (nBoxes c) (.mp 1 fun _=>none)).set (nAhead c) (.mp 1 fun _=>none))) :=
  (((((hf3'.mono (S':=fun n=>n.t=tg c 2∨n.t=tg c 3∨n.t=tg c 5∨n.t=tg c 9∨n.t=tg c 10∨n.t=tg c 15∨n.t=tg c 17) fun n h=>by
   rcases h with h | h | h | h
   ·exact .inl h
   ·exact .inr (.inl h)
   ·exact .inr (.inr (.inl h))
   ·exact .inr (.inr (.inr (.inl h))))).mk'.set (.inl (.inr (.inr (.inr (.inr (.inl rfl))))))).set (.inl (.inr (.inr (.inr (.inr (.inr (.inl rfl)))))))).set (.inl (.inr (.inr (.inr (.inr (.inr (.inr rfl)))))))).bmp
 have p : ∀ n:Nm,n.t≠tg c 10→n.t≠tg c 15→n.t≠tg c 17→(bmp 3 ((((⟨H3.f,H3.k,[nCaches c,nBoxes c,nAhead c]⟩:AH).set (nCaches c) (.mp 1 fun _=>none)).set (nBoxes c) (.mp 1 fun _=>none)).set (nAhead c) (.mp 1 fun _=>none))).f n=H3.f n:=fun n h1 h2 h3=>by
  have e1:n≠nCaches c:=fun e=>h1 (congrArg Nm.t e)
  have e2:n≠nBoxes c:=fun e=>h2 (congrArg Nm.t e)
  have e3:n≠nAhead c:=fun e=>h3 (congrArg Nm.t e)
  simp only [go_sem,e1,e2,e3]
 have q4:=(p (nQ c) (by simp [tg_inj]) (by simp [tg_inj]) (by simp [tg_inj])).trans q3
 have t4:=(p (nTok c) (by simp [tg_inj]) (by simp [tg_inj]) (by simp [tg_inj])).trans t3
 have f4:=(p (nFns c) (by simp [tg_inj]) (by simp [tg_inj]) (by simp [tg_inj])).trans f3
 have h4:=(p (nHosts c) (by simp [tg_inj]) (by simp [tg_inj]) (by simp [tg_inj])).trans h3
 have c4:(bmp 3 ((((⟨H3.f,H3.k,[nCaches c,nBoxes c,nAhead c]⟩:AH).set (nCaches c) (.mp 1 fun _=>none)).set (nBoxes c) (.mp 1 fun _=>none)).set (nAhead c) (.mp 1 fun _=>none))).f (nCaches c)=some (.mp 1 fun _=>none):=by simp only [go_sem,T 10 15 (by decide),T 10 17 (by decide)]
 have x4:(bmp 3 ((((⟨H3.f,H3.k,[nCaches c,nBoxes c,nAhead c]⟩:AH).set (nCaches c) (.mp 1 fun _=>none)).set (nBoxes c) (.mp 1 fun _=>none)).set (nAhead c) (.mp 1 fun _=>none))).f (nBoxes c)=some (.mp 1 fun _=>none):=by simp only [go_sem,T 15 17 (by decide)]
 have w4:(bmp 3 ((((⟨H3.f,H3.k,[nCaches c,nBoxes c,nAhead c]⟩:AH).set (nCaches c) (.mp 1 fun _=>none)).set (nBoxes c) (.mp 1 fun _=>none)).set (nAhead c) (.mp 1 fun _=>none))).f (nAhead c)=some (.mp 1 fun _=>none):=by simp only [go_sem]
 clear p
 generalize (bmp 3 ((((⟨H3.f,H3.k,[nCaches c,nBoxes c,nAhead c]⟩:AH).set (nCaches c) (.mp 1 fun _=>none)).set (nBoxes c) (.mp 1 fun _=>none)).set (nAhead c) (.mp 1 fun _=>none)))=H4 at *
 refine CA_s [nC c] (timer_New_c G (c:=c) (fr _ _ hf4 _ (i 18 (by decide) _ _) (by simp [tg_inj])) (fr _ _ hf4 _ (i 19 (by decide) _ _) (by simp [tg_inj])) (fr _ _ hf4 _ (i 21 (by decide) _ _) (by simp [tg_inj])) (fun j _=>fr _ _ hf4 _ (i 20 (by decide) _ _) (by simp [tg_inj]))) ?_
 rintro _ H5 ⟨rfl,ht5,hf5⟩ _ _
 have g5 : ∀ n:Nm,n.t≠0→n.t≠tg c 18→n.t≠tg c 19→n.t≠tg c 20→n.t≠tg c 21→H5.f n=H4.f n:=fun n h0 h1 h2 h3 h4=>hf5.at_ n (old_of h0) (fun e=>by
  rcases e with e | e
  ·rcases timO_t e with e | e | e
   ·exact h2 e
   ·exact h3 e
   ·exact h4 e
  ·exact h1 (congrArg Nm.t e))
 have hf5':Fra (fun n=>inCt c n∧n.t≠tg c 1∧n.t≠tg c 4∧n.t≠tg c 6∧n.t≠tg c 7∧n.t≠tg c 8∧n.t≠tg c 11∧n.t≠tg c 12∧n.t≠tg c 13∧n.t≠tg c 14∧n.t≠tg c 16) H H5 :=
  (hf4.mono fun n h=>by
   rcases h with h | h | h | h | h | h | h <;> exact ⟨inCt_of (by decide) h,by rw [h]; simp [tg_inj]⟩).trans (hf5.mono fun n h=>by
   have:n.t=tg c 18∨n.t=tg c 19∨n.t=tg c 20∨n.t=tg c 21:=by
    rcases h with e | e
    ·exact .inr (timO_t e)
    ·exact .inl (congrArg Nm.t e)
   rcases this with h | h | h | h <;> exact ⟨inCt_of (by decide) h,by rw [h]; simp [tg_inj]⟩)
 have a6:=fr _ _ hf5' (nC c) (i 1 (by decide) _ _) (fun h=>h.2.1 rfl)
 have b7:(nC c).t≠0:=tg_ne0
 simp only [go_sem,a6,b7]
 have z : ∀ n:Nm,n.t≠tg c 1→(bmp 1 ((⟨H5.f,H5.k,[nC c]⟩:AH).set (nC c) (.row 16 (cs (coreC c {} .nils))))).f n=H5.f n:=fun n h=>by
  have e1:n≠nC c:=fun e=>h (congrArg Nm.t e)
  simp only [go_sem,e1]
 have zz : ∀ n:Nm,n.t≠0→n.t≠tg c 1→n.t≠tg c 18→n.t≠tg c 19→n.t≠tg c 20→n.t≠tg c 21→(bmp 1 ((⟨H5.f,H5.k,[nC c]⟩:AH).set (nC c) (.row 16 (cs (coreC c {} .nils))))).f n=H4.f n:=fun n h0 h h1 h2 h3 h4=>(z n h).trans (g5 n h0 h1 h2 h3 h4)
 have fz : ∀ k,k<64→k≠1→(k=4∨k=6∨k=7∨k=8∨k=11∨k=12∨k=13∨k=14∨k=16) → ∀ a b,(bmp 1 ((⟨H5.f,H5.k,[nC c]⟩:AH).set (nC c) (.row 16 (cs (coreC c {} .nils))))).f ⟨tg c k,a,b⟩=none:=fun k hk h1 hs a b=>by
  rw [z _ (by simp [tg_inj,h1])]
  refine fr _ _ hf5' _ (i k hk a b) ?_
  rintro ⟨_,_,h4,h6,h7,h8,h11,h12,h13,h14,h16⟩
  rcases hs with e | e | e | e | e | e | e | e | e <;> subst e <;> contradiction
 refine ⟨⟨by simp only [go_sem],?_,⟨?_,fun a b h=>by (cases h),fun a _=>fz 4 (by decide) (by decide) (by simp) _ _⟩,⟨?_,fun a b h=>by (cases h),fun a _=>⟨fz 6 (by decide) (by decide) (by simp) _ _,fz 7 (by decide) (by decide) (by simp) _ _,fz 8 (by decide) (by decide) (by simp) _ _⟩⟩,?_,?_,⟨?_,fun b h=>by (cases h),fun a _=>fz 16 (by decide) (by decide) (by simp) _ _⟩,?_,?_,.inl ⟨rfl,rfl⟩⟩,?_⟩
 ·exact (zz (nQ c) tg_ne0 (by simp [tg_inj]) (by simp [tg_inj]) (by simp [tg_inj]) (by simp [tg_inj]) (by simp [tg_inj])).trans q4
 ·have:ptrMap (nBkt c) (fun _=>(none:Option Bkt))=fun _=>none:=by funext l; unfold ptrMap; rcases l with _ | ⟨a,_ | _⟩ <;> rfl
  exact (zz (nTok c) tg_ne0 (by simp [tg_inj]) (by simp [tg_inj]) (by simp [tg_inj]) (by simp [tg_inj]) (by simp [tg_inj])).trans (by rw [t4]; show _=some (AO.mp 1 (ptrMap (nBkt c) fun _=>(none:Option Bkt))); rw [this])
 ·have:ptrMap (nFn c) (fun _=>(none:Option Fnc))=fun _=>none:=by funext l; unfold ptrMap; rcases l with _ | ⟨a,_ | _⟩ <;> rfl
  exact (zz (nFns c) tg_ne0 (by simp [tg_inj]) (by simp [tg_inj]) (by simp [tg_inj]) (by simp [tg_inj]) (by simp [tg_inj])).trans (by rw [f4]; show _=some (AO.mp 1 (ptrMap (nFn c) fun _=>none)); rw [this])
 ·exact (zz (nHosts c) tg_ne0 (by simp [tg_inj]) (by simp [tg_inj]) (by simp [tg_inj]) (by simp [tg_inj]) (by simp [tg_inj])).trans h4
 ·exact ⟨fun _=>none,fun _=>none,fun _=>0,fun _=>0,(zz (nCaches c) tg_ne0 (by simp [tg_inj]) (by simp [tg_inj]) (by simp [tg_inj]) (by simp [tg_inj]) (by simp [tg_inj])).trans c4,fun h=>⟨.inl rfl,fun id=>rfl,rfl⟩,
   fun h j _=>⟨fz 11 (by decide) (by decide) (by simp) _ _,fz 12 (by decide) (by decide) (by simp) _ _,fz 14 (by decide) (by decide) (by simp) _ _⟩,fun h j _=>fz 13 (by decide) (by decide) (by simp) _ _⟩
 ·have:ptrMap (nBox c) (findB [])=fun _=>none:=by funext l; unfold ptrMap; rcases l with _ | ⟨a,_ | _⟩ <;> rfl
  exact (zz (nBoxes c) tg_ne0 (by simp [tg_inj]) (by simp [tg_inj]) (by simp [tg_inj]) (by simp [tg_inj]) (by simp [tg_inj])).trans (by rw [x4]; show _=some (AO.mp 1 (ptrMap (nBox c) (findB []))); rw [this])
 ·have:valMap i64 (fun _=>(none:Option Int))=fun _=>none:=by funext l; unfold valMap; rcases l with _ | ⟨a,_ | _⟩ <;> rfl
  exact (zz (nAhead c) tg_ne0 (by simp [tg_inj]) (by simp [tg_inj]) (by simp [tg_inj]) (by simp [tg_inj]) (by simp [tg_inj])).trans (by rw [w4]; show _=some (AO.mp 1 (valMap i64 fun _=>none)); rw [this])
 ·obtain ⟨ht1,v,ht2⟩:=ht5
  have:timesMap (fun _=>none) (fun _=>none)=fun _=>none:=by funext l; unfold timesMap; rcases l with _ | ⟨a,_ | ⟨b,_ | _⟩⟩ <;> simp
  refine ⟨(z _ (by simp [tg_inj])).trans ht1,v,?_⟩
  show HeapAt (timP c (.fn F.timer_less [])) v (timesMap (fun _=>none) (fun _=>none)) _
  rw [this]
  refine HeapAt.congr ht2 fun m hm=>z m ?_
  have:m.t=tg c 19∨m.t=tg c 20∨m.t=tg c 21:=timO_t (F:=F) hm
  rcases this with h | h | h <;> rw [h] <;> simp [tg_inj]
 ·exact ((hf5'.mono fun n h=>h.1).mk'.set (.inl (i 1 (by decide) _ _))).bmp
end
end Go.Ab

namespace Go.Ab
open Go Gh
variable {P : Program} {F : Nums}
section
variable {c : Nat} {o o' : AV} {H H' A B : AH} {s s' s2 : CS}
abbrev b00:Box:={ id:=0,fn:=0,host:=0,mem:=0 }
def BoxSl (v:AV) (l:List Box) (K:Int) (H':AH):Prop :=
 (l=[]∧v=.nils)∨(l≠[] ∧ ∃ i j g,K≤i∧i<H'.k∧v=.slice ⟨0,i,j⟩ 8 0 l.length∧H'.f ⟨0,i,j⟩=some (.row (l.length*8) g) ∧ ∀ i,i<l.length*8→g i=rowOf 8 boxC (fun i=>l.getD i b00) i)
theorem box_snoc {out:List Box} {k:Box} {g:Nat→AV} (hg : ∀ i,i<out.length*8→g i=rowOf 8 boxC (fun i=>out.getD i b00) i) :
  ∀ i,i<(out++[k]).length*8→(if i<out.length*8 then g i else (boxC k).getD (i-out.length*8) .any)=rowOf 8 boxC (fun i=>(out++[k]).getD i b00) i:=by
 intro i hi
 rw [List.length_append,List.length_singleton] at hi
 unfold rowOf
 simp only [List.getD_eq_getElem?_getD]
 by_cases h:i<out.length*8
 ·rw [if_pos h,hg i h,List.getElem?_append_left (by omega)]
  unfold rowOf
  simp only [List.getD_eq_getElem?_getD]
 ·have h1:i / 8=out.length:=by omega
  have h2:i % 8=i-out.length*8:=by omega
  rw [if_neg h,h1,h2,List.getElem?_append_right (by omega),Nat.sub_self]; rfl
theorem core_Boxes_c (E:Env P F) (hw:IdsOk s.boxes) (hc:CoreAt F c o s H) :
  ACalls P F.core_Boxes [.ptr (nC c) 0] H (fun v H'=>BoxSl v s.boxes H.k H'∧Same H H'):=by
 refine fn_rule E.g.mixed E.g.core_Boxes rfl [] (fun hcl=>?_)
 have hcr:=hc.core
 simp only [go_sem,hcr]
 refine CA_s [] (core_ids_c E (H:=⟨H.f,H.k,[]⟩) (s:=s) (o:=o) (boxes:=s.boxes) hcr hc.boxes.map hw) ?_
 rintro v H2 ⟨hv,hs2,hq⟩ _ _
 have hs2:Same H H2:=hs2.of_mk
 have hk2:=hs2.k
 have hc2:=hc.same hs2
 have hln:s.boxes.length<2147483648:=hw.l
 have hll:(s.boxes.map Box.id).length=s.boxes.length:=List.length_map ..
 have hvl:lenV v=some (i64 (s.boxes.length:Int)):=by
  rcases hv with ⟨e,rfl⟩ | ⟨m,cc,g,_,_,rfl,_⟩
  ·rw [← hll,e]; rfl
  ·rw [← hll]; rfl
 unfold lenV at hvl
 simp only [go_sem,hvl]
 refine C_loop (fun n l' H' => ∃ (j:Nat) (w:AV) (r:List (Nat × AV)),j+n=s.boxes.length∧Same H2 H'∧BoxSl w (s.boxes.take j) H2.k H' ∧
   l'=(0,.ptr (nC c) 0)::(3,w)::(7,v)::(8,i64 (s.boxes.length:Int))::(9,i64 (j:Int))::r) s.boxes.length ⟨0,.nils,[],by omega,Same.mk1,.inl ⟨rfl,rfl⟩,rfl⟩ ?_
 rintro n _ H3 ⟨j,w,r,hj,hs3,hb3,rfl⟩ _ _
 refine ⟨[],?_⟩
 simp only [go_sem]
 refine EI_i (fun d=>?_) (fun d=>?_)
 ·have d:j<s.boxes.length:=by simp at d; omega
  have d':j<(s.boxes.map Box.id).length:=by omega
  have hc3:=hc2.same hs3
  have hk3:=hs3.k
  rcases hv with ⟨e,rfl⟩ | ⟨m,cc,g,m1,m2,rfl,m4,m5,m6⟩
  ·rw [e] at d'; simp at d'
  have m5:H3.f m=some (.row cc g):=hs3.some (fun _=>m2) m5
  have i0:(0:Int)≤(j:Int):=by omega
  have i1:(j:Int)<((s.boxes.map Box.id).length:Int):=by omega
  have i2:j<cc:=by omega
  have g5:g j=i64 (s.boxes[j]).id:=by rw [m6 j d',List.getD_eq_getElem?_getD,List.getElem?_map,List.getElem?_eq_getElem d]; rfl
  have wj:=wrapS (i:=j) (by omega)
  have hmb:=List.getElem_mem d
  have tk:s.boxes.take (j+1)=s.boxes.take j++[s.boxes[j]]:=List.take_succ_eq_append_getElem d
  have hlt:(s.boxes.take j).length=j:=by rw [List.length_take]; omega
  have hrow:=hc3.boxes.row _ hmb
  have hmp:=hc3.boxes.map
  have e1:ptrMap (nBox c) (findB s.boxes) [(s.boxes[j]).id]=some (.ptr (nBox c (s.boxes[j]).id) 0):=by
   show (findB s.boxes (s.boxes[j]).id).map _=_
   rw [findB_mem hw hmb]; rfl
  generalize s.boxes[j]=b at *
  have p32:(2 ^ 32<8)=False:=by simp
  have n1:(⟨0,H3.k,0⟩:Nm)≠⟨0,H3.k,1⟩:=tmp_ne (by decide)
  have sf : ∀ (x:AO),Same H2 ((⟨H3.f,H3.k,[]⟩:AH).set ⟨0,H3.k,0⟩ x):=fun x=>(hs3.mk' (s:=[])).tmp' (by omega)
  rcases hb3 with ⟨e0,rfl⟩ | ⟨e0,bi,bj,gg,b1,b2,rfl,b3,b4⟩
  ·have hj0:j=0:=by rw [← hlt,e0]; rfl
   simp only [go_sem,i0,i1,i2,Int.toNat_natCast,Nat.mul_one,m5,g5,hc3.core,hmp,e1,hrow,p32,or_self,Nat.reduceDiv,wj]
   refine ⟨n-1,_,rfl,by omega,j+1,_,_,by omega,?_,.inr ⟨by rw [tk]; simp,H3.k,1,cs (boxC b),hk3,?_,?_,?_,?_⟩,rfl⟩
   ·exact ((sf _).tmp' (by omega)).bmp
   ·show H3.k<H3.k+1; omega
   ·rw [tk,e0]; rfl
   ·simp only [go_sem]; rw [tk,e0]; rfl
   ·rw [tk,e0]
    intro i hi
    have:=box_snoc (out:=[]) (k:=b) (g:=cs (boxC b)) (fun i h=>by simp at h) i (by simpa using hi)
    rw [if_neg (by simp)] at this
    exact this
  ·have n2:(⟨0,bi,bj⟩:Nm)≠⟨0,H3.k,0⟩:=tmp_nei (by omega)
   have n3:(⟨0,bi,bj⟩:Nm)≠⟨0,H3.k,1⟩:=tmp_nei (by omega)
   rw [hlt] at b3 b4 ⊢
   have l32:j≤2 ^ 32:=by omega
   simp only [go_sem,i0,i1,i2,Int.toNat_natCast,Nat.mul_one,m5,g5,hc3.core,hmp,e1,hrow,p32,or_self,Nat.reduceDiv,n1,n1.symm,n2,n3,n2.symm,n3.symm,b3,l32,wj]
   refine ⟨n-1,_,rfl,by omega,j+1,_,_,by omega,?_,.inr ⟨by rw [tk]; simp,H3.k,1,(fun i=>if i<j*8 then gg i else (boxC b).getD (i-j*8) .any),hk3,?_,?_,?_,?_⟩,rfl⟩
   ·exact (((sf _).set (fun ho=>by have:bi<H2.k:=ho rfl; omega)).tmp' (by omega)).bmp
   ·show H3.k<H3.k+1; omega
   ·rw [tk,List.length_append,hlt]; rfl
   ·simp only [go_sem]; rw [tk,List.length_append,hlt,List.length_singleton,Nat.succ_mul]
   ·rw [tk]
    intro i hi
    have:=box_snoc (out:=s.boxes.take j) (k:=b) (g:=gg) (by rw [hlt]; exact b4) i hi
    rw [hlt] at this
    exact this
 ·have d:j=s.boxes.length:=by simp at d; omega
  subst d
  simp only [go_sem]
  rw [List.take_length] at hb3
  refine ⟨?_,(hs2.trans hs3).mk'⟩
  rcases hb3 with h | ⟨e0,bi,bj,gg,b1,b2,b3⟩
  ·exact .inl h
  ·exact .inr ⟨e0,bi,bj,gg,by omega,b2,b3⟩
end
end Go.Ab

namespace Go.Ab
open Go Gh
variable {P : Program} {F : Nums}
section
variable {c : Nat} {o o' : AV} {H H' A B : AH} {s s' s2 : CS}
theorem core_Ends_c (G:Good P F) (hc:CoreAt F c o s H) {id:Int}:ACalls P F.core_Ends [.ptr (nC c) 0,i64 id] H (fun v H'=>v=.tup [i64 ((s.ends id).getD 0),.bool (s.ends id).isSome]∧Same H H'):=by
 refine fn_rule G.mixed G.core_Ends rfl [] (fun hcl=>?_)
 simp only [go_sem,hc.core]
 refine CA_s [] (timer_At_c G (H:=⟨H.f,H.k,[]⟩) (hc.mk' (l:=[])).timers.tim) ?_
 rintro _ H1 ⟨rfl,h1⟩ _ _
 have e:timesMap s.ends s.boots [0,id]=(s.ends id).map fun t=>(t,0,id):=by unfold timesMap; simp
 simp only [go_sem,e]
 refine ⟨?_,(Same.of_mk h1).mk'⟩
 cases s.ends id <;> rfl
end
end Go.Ab

namespace Gh
def evA (limit size:Int):Ev:={ Ev.zero 1 with limit:=limit,size:=size }
def evF (mem cost keep:Int):Ev:={ Ev.zero 2 with mem:=mem,cost:=cost,keep:=keep }
def evH (n size:Int):Ev:={ Ev.zero 3 with n:=n,size:=size }
def evN (k n:Int):Ev:={ Ev.zero k with n:=n }
def hd1:CS:=(CS.step {} (evA 1 1)).1
def hd2:CS:=(hd1.step (evF 2 1 0)).1
def hd3:CS:=(hd2.step (evH 0 2)).1
def hd4:CS:=(hd3.step (evN 6 0)).1
theorem head_fact:(hd3.step (evN 6 0)).2=(⟨3,1,0,0⟩,[⟨true,1,0,0⟩])∧(hd4.step (evN 6 0)).2.1=⟨4,0,2,0⟩:=by decide +kernel
def ticks:Nat→CS→CS
 | 0,s=>s
 | n+1,s=>((ticks n s).step (Ev.zero 0)).1
def en1:CS:=(CS.step {} (evA 5 5)).1
def en2:CS:=(en1.step (evF 1 1 0)).1
def en3:CS:=(en2.step (evH 0 9)).1
def en4:CS:=(en3.step (evN 6 0)).1
def enW (s:CS) (w:Nat):CS:=(((ticks w s).step (evN 7 1)).1.step (evN 9 1)).1
def enOkS (s:CS) (w:Nat):Bool:=(enW s w).ends 1==some ((w:Int)+10)&&(List.range 17).all fun i =>
 let r:=(ticks i (enW s w)).step (Ev.zero 0)
 (if i+1=10 then r.2.2==[⟨false,1,0,0⟩] else r.2.2==[])&&(r.1.boxes.length==if i+1<10 then 1 else 0)
theorem ends_fact0:(en3.step (evN 6 0)).2.1=⟨3,1,0,0⟩:=by decide +kernel
theorem ends_fact : ∀ w,w<16→enOkS en4 w=true:=by decide +kernel
end Gh

namespace Go.Ab
open Go Gh
variable {P : Program} {F : Nums}
section
variable {c : Nat} {o : AV} {s : CS} {H : AH}
theorem core_Do_e (E:EnvK P F) {n:Int} (r:Rn n s) (hn:n≤10000) {e:Ev} {s':CS} {a:Ans} {out:List Cmd} (hs:(s.step e).1=s') (hp:(s.step e).2=(a,out)) (hc:CoreAt F c o s H) :
  ACalls P F.core_Do [.ptr (nC c) 0,.agg (evC e)] H (fun v H'=>DoneAt F c H a out s' v H'):=by
 have h:=core_Do_c E r hn (e:=e) hc
 rw [hp,hs] at h
 exact h
theorem OutAt.one {w:AV} {k:Cmd} (h:OutAt w [k] H) : ∃ n g,n.t=0∧n.i<H.k∧w=.slice n 4 0 1∧H.f n=some (.row 4 g)∧g 0=.bool k.boot∧g 1=i64 k.box∧g 2=i64 k.fn∧g 3=i64 k.host:=by
 rcases h with ⟨e,_⟩ | ⟨_,n,g,h1,h2,h3,h4,h5⟩
 ·cases e
 ·exact ⟨n,g,h1,h2,h3,h4,h5 0 (by simp),h5 1 (by simp),h5 2 (by simp),h5 3 (by simp)⟩
theorem law18_head_c (E:EnvK P F) (h0 : ∀ n,inCt c n→H.f n=none) :
  ACalls P F.law18_head [] H (fun v H'=>v=.bool true∧Fra (inCt c) H H'):=by
 refine fn_rule E.e.g.mixed E.e.g.law18_head rfl [] (fun hcl=>?_)
 simp only [go_sem]
 refine CA_s [] (core_New_c E.e.g (c:=c) (H:=⟨H.f,H.k,[]⟩) h0) ?_
 rintro _ H1 ⟨rfl,hc1,hf1⟩ _ _
 have hf1:Fra (inCt c) H H1:=hf1.of_mk
 have e1:(CS.step {} (evA 1 1)).1=hd1:=rfl
 have e2:(hd1.step (evF 2 1 0)).1=hd2:=rfl
 have e3:(hd2.step (evH 0 2)).1=hd3:=rfl
 have e4:(hd3.step (evN 6 0)).1=hd4:=rfl
 have q1:=head_fact.1
 have q2:=head_fact.2
 have r1:Rn 1 hd1:=Rn.init.step (evA 1 1)
 have r2:Rn 2 hd2:=r1.step (evF 2 1 0)
 have r3:Rn 3 hd3:=r2.step (evH 0 2)
 have r4:Rn 4 hd4:=r3.step (evN 6 0)
 generalize hd4=d4 at *
 generalize hd3=d3 at *
 generalize hd2=d2 at *
 generalize hd1=d1 at *
 simp only [go_sem]
 refine CA_s [] (core_Do_e E (H:=⟨H1.f,H1.k,[]⟩) (e:=evA 1 1) Rn.init (by decide) e1 rfl hc1.mk') ?_
 rintro _ H2 ⟨⟨w2,o2,rfl,hc2,-,-⟩,hf2⟩ _ _
 simp only [go_sem]
 refine CA_s [] (core_Do_e E (H:=⟨H2.f,H2.k,[]⟩) (e:=evF 2 1 0) r1 (by decide) e2 rfl hc2.mk') ?_
 rintro _ H3 ⟨⟨w3,o3,rfl,hc3,-,-⟩,hf3⟩ _ _
 simp only [go_sem]
 refine CA_s [] (core_Do_e E (H:=⟨H3.f,H3.k,[]⟩) (e:=evH 0 2) r2 (by decide) e3 rfl hc3.mk') ?_
 rintro _ H4 ⟨⟨w4,o4,rfl,hc4,-,-⟩,hf4⟩ _ _
 simp only [go_sem]
 refine CA_s [] (core_Do_e E (H:=⟨H4.f,H4.k,[]⟩) (e:=evN 6 0) r3 (by decide) e4 q1 hc4.mk') ?_
 rintro _ H5 ⟨⟨w5,o5,rfl,hc5,hw5,-⟩,hf5⟩ _ _
 obtain ⟨n,g,n0,nk,rfl,hr,g0,g1,g2,g3⟩:=hw5.one
 obtain ⟨nt,ni,nj⟩:=n
 simp only at n0 nk
 subst n0
 simp only [go_sem]
 have hs5:Same H5 (bmp 1 ((⟨H5.f,H5.k,[]⟩:AH).set ⟨0,H5.k,0⟩ (.row 4 (cs (ansC ⟨3,1,0,0⟩))))):=(Same.mk1.tmp).bmp
 have hb5:(bmp 1 ((⟨H5.f,H5.k,[]⟩:AH).set ⟨0,H5.k,0⟩ (.row 4 (cs (ansC ⟨3,1,0,0⟩))))).f ⟨0,H5.k,0⟩=some (.row 4 (cs (ansC ⟨3,1,0,0⟩))):=by simp only [go_sem]
 have hk5:H5.k<(bmp 1 ((⟨H5.f,H5.k,[]⟩:AH).set ⟨0,H5.k,0⟩ (.row 4 (cs (ansC ⟨3,1,0,0⟩))))).k:=by show H5.k<H5.k+1; omega
 generalize (bmp 1 ((⟨H5.f,H5.k,[]⟩:AH).set ⟨0,H5.k,0⟩ (.row 4 (cs (ansC ⟨3,1,0,0⟩)))))=H6 at *
 refine CA_s [] (core_Do_e E (e:=evN 6 0) r4 (by decide) rfl (Prod.ext q2 rfl) (hc5.same hs5)) ?_
 rintro _ H7 ⟨⟨w7,o7,rfl,hc7,-,-⟩,hf7⟩ _ _
 have tn : ∀ a b:Int,¬ inCt c ⟨0,a,b⟩:=fun a b h=>by have:(0:Nat) / 64=c+1:=h; omega
 have hk7:=hf7.k
 have ha7:H7.f ⟨0,H5.k,0⟩=some (.row 4 (cs (ansC ⟨3,1,0,0⟩))):=(hf7.at_ _ (fun _=>hk5) (tn _ _)).trans hb5
 have hr7:H7.f ⟨0,ni,nj⟩=some (.row 4 g):=(hf7.at_ _ (fun _=>Int.lt_trans nk hk5) (tn _ _)).trans ((hs5.at_ _ (fun _=>nk)).trans hr)
 have n1:(⟨0,H5.k,0⟩:Nm)≠⟨0,H7.k,0⟩:=tmp_nei (by omega)
 have n2:(⟨0,ni,nj⟩:Nm)≠⟨0,H7.k,0⟩:=tmp_nei (by omega)
 have z:(0:Int).toNat=0:=rfl
 have z1:((0:Int)≤0)=True:=by simp
 have z2:((0:Int)<1)=True:=by simp
 simp only [go_sem,ha7,hr7,n1,n2,eqs,beq_self_eq_true,Bool.and_self,g0,g1,g2,g3,z,z1,z2,Nat.zero_mul,Nat.le_refl]
 exact (((((((hf1.trans (Fra.of_mk hf2)).trans (Fra.of_mk hf3)).trans (Fra.of_mk hf4)).trans (Fra.of_mk hf5)).trans hs5.fra).trans hf7).tmp).bmp
end
end Go.Ab

namespace Go.Ab
open Go Gh
variable {P : Program} {F : Nums}
section
variable {c : Nat} {o : AV} {s : CS} {H : AH}
theorem fresh_next {H H':AH} {S:Nm→Prop} {c:Nat} (hf:Fra S H H') (h0 : ∀ n,inCt c n→H.f n=none) (hS : ∀ n,inCt c n → ¬ S n) : ∀ n,inCt c n→H'.f n=none:=fun n hn =>
 (hf.at_ n (old_of fun e=>by have:n.t / 64=c+1:=hn; rw [e] at this; omega) (hS n hn)).trans (h0 n hn)
theorem inCt_ne {c d:Nat} (h:c≠d) {n:Nm} (hn:inCt c n) : ¬ inCt d n:=fun hd=>by
 have h1:n.t / 64=c+1:=hn
 have h2:n.t / 64=d+1:=hd
 omega
theorem core_Do_x (E:EnvK P F) {n:Int} (r:Rn n s) (hn:n≤10000) {e:Ev} {s':CS} (hs:(s.step e).1=s') (hc:CoreAt F c o s H) :
  ACalls P F.core_Do [.ptr (nC c) 0,.agg (evC e)] H (fun v H' => ∃ a out,DoneAt F c H a out s' v H'):=by
 refine ACalls.post (core_Do_c E r hn (e:=e) hc) fun v H' h _ _=>⟨H',Wk.refl _,_,_,hs ▸ h⟩
theorem core_Do_o (E:EnvK P F) {n:Int} (r:Rn n s) (hn:n≤10000) {e:Ev} {s':CS} {out:List Cmd} (hs:(s.step e).1=s') (ho:(s.step e).2.2=out) (hc:CoreAt F c o s H) :
  ACalls P F.core_Do [.ptr (nC c) 0,.agg (evC e)] H (fun v H' => ∃ a,DoneAt F c H a out s' v H'):=by
 refine ACalls.post (core_Do_c E r hn (e:=e) hc) fun v H' h _ _=>⟨H',Wk.refl _,_,ho ▸ hs ▸ h⟩
theorem rn_ids {n:Int} (r:Rn n s) (hn:n≤10000):IdsOk s.boxes:=ids_ok r.ok.w (Few.of (by have:=r.next; omega))
theorem mask_ex (a:Int) (m:Nat) (hm:m<1024) : ∃ w:Nat,w≤m∧IntKind.i64.wrap (((BitVec.ofInt 64 a &&& BitVec.ofInt 64 (m:Int)).toNat:Nat):Int)=(w:Int):=by
 refine ⟨(BitVec.ofInt 64 a &&& BitVec.ofInt 64 (m:Int)).toNat,?_,?_⟩
 ·rw [BitVec.toNat_and]
  refine Nat.le_trans Nat.and_le_right ?_
  rw [BitVec.toNat_ofInt]
  omega
 ·have:(BitVec.ofInt 64 a &&& BitVec.ofInt 64 (m:Int)).toNat≤m:=by
   rw [BitVec.toNat_and]
   refine Nat.le_trans Nat.and_le_right ?_
   rw [BitVec.toNat_ofInt]
   omega
  exact wrap64 (by omega) (by omega)
theorem mask15 (a:Int) : ∃ w:Nat,w≤15∧IntKind.i64.wrap ((@BitVec.toNat 64 (@HAnd.hAnd (BitVec 64) (BitVec 64) (BitVec 64) (@instHAndOfAndOp (BitVec IntKind.i64.bits) (@BitVec.instAndOp IntKind.i64.bits)) (BitVec.ofInt 64 a) (BitVec.ofInt 64 15)):Nat):Int)=(w:Int):=mask_ex a 15 (by decide)
theorem mask7 (a:Int) : ∃ w:Nat,w≤7∧IntKind.i64.wrap ((@BitVec.toNat 64 (@HAnd.hAnd (BitVec 64) (BitVec 64) (BitVec 64) (@instHAndOfAndOp (BitVec IntKind.i64.bits) (@BitVec.instAndOp IntKind.i64.bits)) (BitVec.ofInt 64 a) (BitVec.ofInt 64 7)):Nat):Int)=(w:Int):=mask_ex a 7 (by decide)
end
end Go.Ab

namespace Go.Ab
open Go Gh
variable {P : Program} {F : Nums}
section
variable {c : Nat} {o : AV} {s : CS} {H : AH}
theorem ends_loop (E:EnvK P F) {s5:CS} {x:Nat} (hx:x≤7) {m:Int} (r5:Rn m s5) (hm:m≤100) (hE : ∀ i,i<17→((if i+1=10 then ((ticks i s5).step (Ev.zero 0)).2.2==[⟨false,1,0,0⟩] else ((ticks i s5).step (Ev.zero 0)).2.2==[])&&(((ticks i s5).step (Ev.zero 0)).1.boxes.length==if i+1<10 then 1 else 0))=true)
  {H8:AH} (hc8:CoreAt F 1 o s5 H8) (hf8:Fra (fun n=>inCt 0 n∨inCt 1 n) H H8) {K:AV→AH→Prop} (hK : ∀ H',Fra (fun n=>inCt 0 n∨inCt 1 n) H H'→K (.bool true) H') {r:List (Nat × AV)} :
  RT P (c_law18_CoreEnds F).ac.tl.tl.tl.tl.tl.tl.tl.tl.tl.tl.tl.tl.tl.tl.tl ⟨endQ [.tmp 4] K,fun _ _ _=>False,endQ [.tmp 4] K⟩
   (fr ((1,i64 (x:Int))::(5,.ptr (nC 1) 0)::r)) H8:=by
 simp only [c_law18_CoreEnds,AC.tl_seq]
 refine RT_i ?_
 refine W_cut ?_
 simp only [go_sem]
 have wx:IntKind.i64.wrap (10+(x:Int))=10+(x:Int):=wrap64 (by omega) (by omega)
 refine C_loop (fun n l' H' => ∃ (j:Nat) (o':AV) (r:List (Nat × AV)),j+n=x+10∧CoreAt F 1 o' (ticks j s5) H'∧Rn (m+j) (ticks j s5)∧Fra (fun n=>inCt 0 n∨inCt 1 n) H H' ∧
   l'=(1,i64 (x:Int))::(5,.ptr (nC 1) 0)::(11,i64 ((j:Int)+1))::r) (x+10) ⟨0,o,[],by omega,hc8,by simpa [ticks] using r5,hf8,rfl⟩ ?_
 rintro n _ H1 ⟨j,o1,r1,hj,hc1,rj,hf1,rfl⟩ _ _
 refine ⟨[],?_⟩
 refine W_cut ?_
 simp only [go_sem,wx]
 refine EI_i (fun d=>?_) (fun d=>?_)
 ·have d:j<x+10:=by simp at d; omega
  simp only [go_sem]
  refine RT_i ?_
  refine W_cut ?_
  refine W_blk ?_
  refine W_cut ?_
  simp only [go_sem]
  have hq:=hE j (by omega)
  rw [Bool.and_eq_true] at hq
  have r1:=rj.step (Ev.zero 0)
  have htk:((ticks j s5).step (Ev.zero 0)).1=ticks (j+1) s5:=rfl
  rw [htk] at hq r1
  by_cases hj10:j+1=10
  ·rw [if_pos hj10,if_neg (by omega)] at hq
   have e10:((j:Int)+1==10)=true:=by simp; omega
   have e11:decide ((j:Int)+1<10)=false:=by simp; omega
   have ho:((ticks j s5).step (Ev.zero 0)).2.2=[⟨false,1,0,0⟩]:=by simpa using hq.1
   have hb:(ticks (j+1) s5).boxes=[]:=by have:=hq.2; simpa using this
   refine CA_s [] (core_Do_o E (H:=⟨H1.f,H1.k,[]⟩) (e:=Ev.zero 0) rj (by omega) htk ho hc1.mk') ?_
   rintro _ H2 ⟨a2,⟨w2,o2,rfl,hc2,hw2,-⟩,hf2⟩ _ _
   obtain ⟨n2,g,n0,nk,rfl,hr,g0,g1,g2,g3⟩:=hw2.one
   obtain ⟨nt,ni,nj⟩:=n2
   simp only at n0 nk
   subst n0
   have hs3:Same H2 (bmp 1 ((⟨H2.f,H2.k,[]⟩:AH).set ⟨0,H2.k,0⟩ (.row 4 (cs (ansC a2))))):=(Same.mk1.tmp).bmp
   have hc3:=hc2.same hs3
   have hk3:H2.k<(bmp 1 ((⟨H2.f,H2.k,[]⟩:AH).set ⟨0,H2.k,0⟩ (.row 4 (cs (ansC a2))))).k:=by show H2.k<H2.k+1; omega
   have hr3:=(hs3.at_ ⟨0,ni,nj⟩ (fun _=>nk)).trans hr
   simp only [go_sem]
   generalize (bmp 1 ((⟨H2.f,H2.k,[]⟩:AH).set ⟨0,H2.k,0⟩ (.row 4 (cs (ansC a2)))))=H3 at *
   refine RT_i ?_
   refine W_cut ?_
   have e12:decide ((1:Int)>1)=false:=by decide
   simp only [go_sem,e10,e12,beq_self_eq_true,Bool.not_true,Bool.not_false]
   refine CA_s [] (core_Boxes_c E.e (H:=H3) (rn_ids r1 (by omega)) hc3) ?_
   rintro _ H4 ⟨hb4,hs4⟩ _ _
   rw [hb] at hb4
   have hr4:=(hs4.at_ ⟨0,ni,nj⟩ (fun _=>Int.lt_trans nk hk3)).trans hr3
   rcases hb4 with ⟨-,rfl⟩ | ⟨e0,_⟩
   rotate_left
   ·exact absurd rfl e0
   have e13:((0:Int)==1)=false:=by decide
   simp only [go_sem,e11,e13,beq_self_eq_true,Bool.not_true,Bool.not_false]
   refine RT_i ?_
   have z:(0:Int).toNat=0:=rfl
   have z1:((0:Int)≤0)=True:=by simp
   have z2:((0:Int)<1)=True:=by simp
   have wj:IntKind.i64.wrap ((j:Int)+1+1)=((j+1:Nat):Int)+1:=by rw [wrap64 (by omega) (by omega)]; omega
   simp only [go_sem,e10,hr4,z,z1,z2,Nat.zero_mul,Nat.le_refl,g0,g1,g2,g3,eqs,beq_self_eq_true,Bool.and_self,Bool.not_true,Bool.not_false]
   refine RT_i ?_
   simp only [go_sem,wj]
   refine ⟨n-1,_,rfl,by omega,j+1,o2,[],by omega,(hc3.same hs4).mk',by rw [show m+((j+1:Nat):Int)=m+j+1 by omega]; exact r1,?_,rfl⟩
   exact (((hf1.trans (Fra.mono (Fra.of_mk hf2) fun n h=>.inr h)).trans hs3.fra).trans hs4.fra).mk'
  ·rw [if_neg hj10] at hq
   have ho:((ticks j s5).step (Ev.zero 0)).2.2=[]:=by simpa using hq.1
   have hb:(ticks (j+1) s5).boxes.length=if j+1<10 then 1 else 0:=by have:=hq.2; simpa using this
   have e10:((j:Int)+1==10)=false:=by simp; omega
   refine CA_s [] (core_Do_o E (H:=⟨H1.f,H1.k,[]⟩) (e:=Ev.zero 0) rj (by omega) htk ho hc1.mk') ?_
   rintro _ H2 ⟨a2,⟨w2,o2,rfl,hc2,hw2,-⟩,hf2⟩ _ _
   rcases hw2 with ⟨-,rfl⟩ | ⟨e0,_⟩
   rotate_left
   ·exact absurd rfl e0
   have hs3:Same H2 (bmp 1 ((⟨H2.f,H2.k,[]⟩:AH).set ⟨0,H2.k,0⟩ (.row 4 (cs (ansC a2))))):=(Same.mk1.tmp).bmp
   have hc3:=hc2.same hs3
   simp only [go_sem]
   generalize (bmp 1 ((⟨H2.f,H2.k,[]⟩:AH).set ⟨0,H2.k,0⟩ (.row 4 (cs (ansC a2)))))=H3 at *
   refine RT_i ?_
   refine W_cut ?_
   have e12:decide ((0:Int)>1)=false:=by decide
   have e13:((0:Int)==1)=false:=by decide
   simp only [go_sem,e10,e12,e13,beq_self_eq_true,Bool.not_true,Bool.not_false]
   refine CA_s [] (core_Boxes_c E.e (H:=H3) (rn_ids r1 (by omega)) hc3) ?_
   rintro v H4 ⟨hb4,hs4⟩ _ _
   have hlen:lenV v=some (i64 ((ticks (j+1) s5).boxes.length:Int)):=by
    rcases hb4 with ⟨e,rfl⟩ | ⟨_,_,_,_,_,_,rfl,_⟩
    ·rw [e]; rfl
    ·rfl
   unfold lenV at hlen
   have e14:((((ticks (j+1) s5).boxes.length:Int)==1)==decide ((j:Int)+1<10))=true:=by
    rw [hb]
    by_cases h:j+1<10
    ·rw [if_pos h,decide_eq_true (by omega)]; rfl
    ·rw [if_neg h,decide_eq_false (by omega)]; rfl
   simp only [go_sem,hlen,e14,Bool.not_true]
   refine RT_i ?_
   have wj:IntKind.i64.wrap ((j:Int)+1+1)=((j+1:Nat):Int)+1:=by rw [wrap64 (by omega) (by omega)]; omega
   simp only [go_sem,e10]
   refine RT_i ?_
   simp only [go_sem,wj]
   refine ⟨n-1,_,rfl,by omega,j+1,o2,[],by omega,(hc3.same hs4).mk',by rw [show m+((j+1:Nat):Int)=m+j+1 by omega]; exact r1,?_,rfl⟩
   exact (((hf1.trans (Fra.mono (Fra.of_mk hf2) fun n h=>.inr h)).trans hs3.fra).trans hs4.fra).mk'
 ·simp only [go_sem]
  refine RT_i ?_
  simp only [go_sem]
  exact hK _ hf1.mk'
theorem ends_tail (E:EnvK P F) {s4:CS} {w x:Nat} (hw:w≤15) (hx:x≤7) {m:Int} (r4:Rn m s4) (hm:m≤50) (hE:enOkS s4 w=true) {o:AV}
  {H8:AH} (hc8:CoreAt F 1 o (ticks w s4) H8) (rw4:Rn (m+w) (ticks w s4)) (hf8:Fra (fun n=>inCt 0 n∨inCt 1 n) H H8) {K:AV→AH→Prop} (hK : ∀ H',Fra (fun n=>inCt 0 n∨inCt 1 n) H H'→K (.bool true) H') {r:List (Nat × AV)} :
  RT P (c_law18_CoreEnds F).ac.tl.tl.tl.tl.tl.tl.tl.tl.tl.tl.tl ⟨endQ [.tmp 4] K,fun _ _ _=>False,endQ [.tmp 4] K⟩
   (fr ((0,i64 (w:Int))::(1,i64 (x:Int))::(5,.ptr (nC 1) 0)::r)) H8:=by
 simp only [c_law18_CoreEnds,AC.tl_seq]
 refine RT_i ?_
 refine W_cut ?_
 simp only [go_sem]
 refine CA_s [] (core_Do_x E (H:=H8) (e:=evN 7 1) rw4 (by omega) rfl hc8) ?_
 rintro _ H9 ⟨a9,_,⟨w9,o9,rfl,hc9,-,-⟩,hf9⟩ _ _
 have rB:=rw4.step (evN 7 1)
 simp only [go_sem]
 refine RT_i ?_
 refine W_cut ?_
 simp only [go_sem]
 refine CA_s [] (core_Do_x E (H:=⟨H9.f,H9.k,[]⟩) (e:=evN 9 1) rB (by omega) rfl hc9.mk') ?_
 rintro _ H10 ⟨a10,_,⟨w10,o10,rfl,hc10,-,-⟩,hf10⟩ _ _
 have rD:=rB.step (evN 9 1)
 simp only [go_sem]
 refine RT_i ?_
 refine W_cut ?_
 have hE':=hE
 unfold enOkS at hE'
 rw [Bool.and_eq_true,List.all_eq_true] at hE'
 have e1:(enW s4 w).ends 1=some ((w:Int)+10):=by simpa using hE'.1
 have e2 : ∀ i,i<17→_:=fun i hi=>hE'.2 i (List.mem_range.2 hi)
 have hc10:CoreAt F 1 o10 (enW s4 w) H10:=hc10
 have rD:Rn (m+w+1+1) (enW s4 w):=rD
 generalize enW s4 w=s5 at *
 have hf10:Fra (fun n=>inCt 0 n∨inCt 1 n) H H10:=(hf8.trans (Fra.mono hf9 fun n h=>.inr h)).trans (Fra.mono (Fra.of_mk hf10) fun n h=>.inr h)
 simp only [go_sem]
 refine CA_s [] (core_Ends_c E.e.g (H:=⟨H10.f,H10.k,[]⟩) hc10.mk') ?_
 rintro _ H11 ⟨rfl,hs11⟩ _ _
 have hs11:Same H10 H11:=hs11.of_mk
 rw [e1]
 have wW:IntKind.i64.wrap ((w:Int)+10)=(w:Int)+10:=wrap64 (by omega) (by omega)
 simp only [go_sem]
 refine RT_i ?_
 refine W_cut ?_
 simp only [go_sem,wW,Option.isSome_some,Option.getD_some,Bool.not_true,bne_self_eq_false]
 exact ends_loop E hx rD (by omega) e2 (hc10.same hs11).mk' (hf10.trans hs11.fra).mk' hK
theorem law18_CoreEnds_c (E:EnvK P F) (h0 : ∀ c n,inCt c n→H.f n=none) {a b:Int} :
  ACalls P F.law18_CoreEnds [i64 a,i64 b] H (fun v H'=>v=.bool true∧Fra (fun n=>inCt 0 n∨inCt 1 n) H H'):=by
 refine fn_rule E.e.g.mixed E.e.g.law18_CoreEnds rfl [] (fun hcl=>?_)
 refine W_cut0 ?_
 simp only [go_sem]
 refine RT_i ?_
 refine W_cut ?_
 simp only [go_sem]
 refine CA_s [] (law18_head_c E (c:=0) (H:=⟨H.f,H.k,[]⟩) (h0 0)) ?_
 rintro _ H1 ⟨rfl,hf1⟩ _ _
 have hf1:Fra (inCt 0) H H1:=hf1.of_mk
 have h1:=fresh_next hf1 (h0 1) (fun n hn=>inCt_ne (by decide) hn)
 obtain ⟨w,hw,ew⟩:=mask15 a
 obtain ⟨x,hx,ex⟩:=mask7 b
 simp only [go_sem]
 refine RT_i ?_
 refine W_cut ?_
 simp only [go_sem,ew]
 refine RT_i ?_
 refine W_cut ?_
 simp only [go_sem,ex]
 refine RT_i ?_
 refine W_cut ?_
 simp only [go_sem]
 refine CA_s [] (core_New_c E.e.g (c:=1) (H:=⟨H1.f,H1.k,[]⟩) h1) ?_
 rintro _ H2 ⟨rfl,hc2,hf2⟩ _ _
 have hf2:Fra (inCt 1) H1 H2:=hf2.of_mk
 have e1:(CS.step {} (evA 5 5)).1=en1:=rfl
 have e2:(en1.step (evF 1 1 0)).1=en2:=rfl
 have e3:(en2.step (evH 0 9)).1=en3:=rfl
 have e4:(en3.step (evN 6 0)).1=en4:=rfl
 have q4:=ends_fact0
 have r1:Rn 1 en1:=Rn.init.step _
 have r2:Rn 2 en2:=r1.step _
 have r3:Rn 3 en3:=r2.step _
 have r4:Rn 4 en4:=r3.step _
 have hE:enOkS en4 w=true:=ends_fact w (by omega)
 generalize en4=s4 at *
 generalize en3=s3 at *
 generalize en2=s2 at *
 generalize en1=s1 at *
 simp only [go_sem]
 refine RT_i ?_
 refine W_cut ?_
 simp only [go_sem]
 refine CA_s [] (core_Do_x E (H:=⟨H2.f,H2.k,[]⟩) (e:=evA 5 5) Rn.init (by decide) e1 hc2.mk') ?_
 rintro _ H3 ⟨a3,_,⟨w3,o3,rfl,hc3,-,-⟩,hf3⟩ _ _
 simp only [go_sem]
 refine RT_i ?_
 refine W_cut ?_
 simp only [go_sem]
 refine CA_s [] (core_Do_x E (H:=⟨H3.f,H3.k,[]⟩) (e:=evF 1 1 0) r1 (by decide) e2 hc3.mk') ?_
 rintro _ H4 ⟨a4,_,⟨w4,o4,rfl,hc4,-,-⟩,hf4⟩ _ _
 simp only [go_sem]
 refine RT_i ?_
 refine W_cut ?_
 simp only [go_sem]
 refine CA_s [] (core_Do_x E (H:=⟨H4.f,H4.k,[]⟩) (e:=evH 0 9) r2 (by decide) e3 hc4.mk') ?_
 rintro _ H5 ⟨a5,_,⟨w5,o5,rfl,hc5,-,-⟩,hf5⟩ _ _
 simp only [go_sem]
 refine RT_i ?_
 refine W_cut ?_
 simp only [go_sem]
 refine CA_s [] (core_Do_e E (H:=⟨H5.f,H5.k,[]⟩) (e:=evN 6 0) r3 (by decide) e4 (Prod.ext q4 rfl) hc5.mk') ?_
 rintro _ H6 ⟨⟨w6,o6,rfl,hc6,-,-⟩,hf6⟩ _ _
 have hf6:Fra (fun n=>inCt 0 n∨inCt 1 n) H H6:=(hf1.mono fun n h=>.inl h).trans (Fra.mono ((((hf2.trans (Fra.of_mk hf3)).trans (Fra.of_mk hf4)).trans (Fra.of_mk hf5)).trans (Fra.of_mk hf6)) fun n h=>.inr h)
 have hs7:Same H6 (bmp 1 ((⟨H6.f,H6.k,[]⟩:AH).set ⟨0,H6.k,0⟩ (.row 4 (cs (ansC ⟨3,1,0,0⟩))))):=(Same.mk1.tmp).bmp
 have hb7:(bmp 1 ((⟨H6.f,H6.k,[]⟩:AH).set ⟨0,H6.k,0⟩ (.row 4 (cs (ansC ⟨3,1,0,0⟩))))).f ⟨0,H6.k,0⟩=some (.row 4 (cs (ansC ⟨3,1,0,0⟩))):=by simp only [go_sem]
 have hc7:=hc6.same hs7
 simp only [go_sem]
 generalize (bmp 1 ((⟨H6.f,H6.k,[]⟩:AH).set ⟨0,H6.k,0⟩ (.row 4 (cs (ansC ⟨3,1,0,0⟩)))))=H7 at *
 refine RT_i ?_
 refine W_cut ?_
 simp only [go_sem,hb7,eqs,beq_self_eq_true,Bool.and_self,Bool.not_true]
 refine RT_i ?_
 refine W_cut ?_
 simp only [go_sem]
 refine C_loop (fun n l' H' => ∃ (j:Nat) (o':AV) (r:List (Nat × AV)),j+n=w∧CoreAt F 1 o' (ticks j s4) H'∧Rn (4+j) (ticks j s4)∧Fra (fun n=>inCt 0 n∨inCt 1 n) H H' ∧
   l'=(0,i64 (w:Int))::(1,i64 (x:Int))::(5,.ptr (nC 1) 0)::(8,i64 (j:Int))::r) w ⟨0,o6,[],by omega,hc7,by simpa [ticks] using r4,hf6.trans hs7.fra,rfl⟩ ?_
 rintro n _ H8 ⟨j,o8,r,hj,hc8,rj,hf8,rfl⟩ _ _
 refine ⟨[],?_⟩
 refine W_cut ?_
 simp only [go_sem]
 refine EI_i (fun d=>?_) (fun d=>?_)
 ·have d:j<w:=by simp at d; omega
  have wj:=wrapS (i:=j) (by omega)
  have htk:((ticks j s4).step (Ev.zero 0)).1=ticks (j+1) s4:=rfl
  have rn:=rj.step (Ev.zero 0)
  rw [htk] at rn
  simp only [go_sem]
  refine RT_i ?_
  refine W_cut ?_
  refine W_blk ?_
  simp only [go_sem]
  refine CA_s [] (core_Do_x E (H:=⟨H8.f,H8.k,[]⟩) (e:=Ev.zero 0) rj (by omega) htk hc8.mk') ?_
  rintro _ H9 ⟨a9,_,⟨w9,o9,rfl,hc9,-,-⟩,hf9⟩ _ _
  simp only [go_sem]
  refine RT_i ?_
  simp only [go_sem,wj]
  refine ⟨n-1,_,rfl,by omega,j+1,o9,[],by omega,hc9.mk',by rw [show (4:Int)+((j+1:Nat):Int)=4+j+1 by omega]; exact rn,(hf8.trans (Fra.mono (Fra.of_mk hf9) fun n h=>.inr h)).mk',rfl⟩
 ·have d:j=w:=by simp at d; omega
  subst d
  simp only [go_sem]
  exact ends_tail E hw hx r4 (by decide) hE (K:=fun v H'=>v=.bool true∧Fra (fun n=>inCt 0 n∨inCt 1 n) H H') hc8.mk' rj hf8.mk' (fun H' h=>⟨rfl,h⟩)
end
end Go.Ab

namespace Go.Proofs
open Go.RowKit Go.Shelf
attribute [local go_sem] Oper.semAt_some
def Bw.Rd (Bs len:Nat) (z:Nat→Int) (W:World):Prop := ∃ a cap,W.cell? ⟨Bs,0,none⟩=some (.slice a len cap) ∧ ∀ j,j<len → ∃ b off,a=some ⟨b,off,none⟩∧W.cell? ⟨b,off+j,none⟩=some (.int .i64 (z j))
set_option maxRecDepth 100000 in
set_option maxHeartbeats 2000000 in
theorem Bw.backward1 (lp Bs len:Nat) (z:Nat→Int) (hlen:len<2147483648) (J:Nat→World→Prop) (Jx:World→Prop) (hR : ∀ i W,J i W→Bw.Rd Bs len z W)
  (hY : ∀ i W,i<len→J i W→YieldAt Fence.wide 1 Tryz.prog lp #[.int .i64 ((len:Int)-1-(i:Int)),.int .i64 (z (len-1-i))] W fun e W'=>(e=.returned (.bool true)∧J (i+1) W')∨(e=.returned (.bool false)∧Jx W'))
  (W:World) (h0:J 0 W) :
  CallsIn Fence.wide 2 Tryz.prog 209 #[.func (.yield lp) #[] #[],.pointer (some ⟨Bs,0,none⟩)] W fun e W'=>(∃ v,e=.returned v)∧(J len W'∨Jx W'):=by
 refine callsIn_of_wp Tryz.func209 rfl trivial ?_ rfl
 simp only [Tryz.ntmps209,List.size_toArray,List.length_cons,List.length_nil,Nat.reduceAdd,Nat.reduceSub,Array.replicate_succ,Array.replicate_zero,List.push_toArray,List.append_toArray,List.nil_append,List.cons_append]
 obtain ⟨a,cap,hs,hz⟩:=hR 0 W h0
 have wl : ∀ k:Nat,k≤len→IntKind.i64.wrap ((len:Int)-1-(k:Int))=(len:Int)-1-(k:Int):=fun k hk=>Go.Ab.wrap64 (by omega) (by omega)
 have wl0:IntKind.i64.wrap ((len:Int)-1)=(len:Int)-1:=Go.Ab.wrap64 (by omega) (by omega)
 gi_wp2
 gi_loopw [3] (fun i wr => ∃ k:Nat,k≤len∧i=.int .i64 ((len:Int)-1-(k:Int))∧J k wr)
  (fun i _=>(intOf i+1).toNat)
 case atStart=>exact ⟨0,Nat.zero_le _,by simp [wl0],h0⟩
 case round =>
  obtain ⟨k,hk,rfl,hJs⟩:=hrel
  obtain ⟨a,cap,hs,hz⟩:=hR k wr hJs
  by_cases hlt:k<len
  ·obtain ⟨fn,tmps,assign,body,hy,hRR⟩:=hY k wr hlt hJs
   obtain ⟨b,off,rfl,hz1⟩:=hz (len-1-k) (by omega)
   have ek:((len-1-k:Nat):Int)=(len:Int)-1-(k:Int):=by omega
   have hge:(0:Int)≤(len:Int)-1-(k:Int):=by omega
   have wl1:=wl (k+1) (by omega)
   have ek1:(len:Int)-1-(k:Int)-1=(len:Int)-1-((k+1:Nat):Int):=by omega
   gi_wp2
   refine hRR.mono ?_
   rintro e W3 (⟨rfl,hJ3⟩ | ⟨rfl,hJx3⟩)
   ·gi_wp2
    go_roundw
    case rel=>exact ⟨k+1,by omega,by congr 1,hJ3⟩
    case measure=>simp [intOf]; omega
   ·gi_wp2
    refine bodyPost_ret (results_none rfl _ _ _) rfl ?_
    exact ⟨⟨_,rfl⟩,.inr hJx3⟩
  ·obtain rfl:k=len:=by omega
   have hge : ¬ ((0:Int)≤(k:Int)-1-(k:Int)):=by omega
   gi_wp2
   go_end0
   exact ⟨⟨_,rfl⟩,.inl hJs⟩
theorem Bw.bw:Go.Ab.BW Tryz.prog 209:=by
 intro H nb v l hnb hv hlen lp J Jx ρ w cs hw hcs hJ hY h0
 obtain ⟨c0,cs',rfl⟩ : ∃ c0 cs',cs=c0::cs':=by
  cases cs with
  | nil=>exact absurd hcs (by simp [Go.Ab.VRels])
  | cons a b=>exact ⟨a,b,rfl⟩
 simp only [Go.Ab.VRels] at hcs
 obtain ⟨h1,h2⟩:=hcs
 have hcs':cs'=[]:=by
  cases cs' with
  | nil=>rfl
  | cons a b=>exact absurd h2 (by simp [Go.Ab.VRels])
 subst hcs'
 simp only [Go.Ab.VRel] at h1
 obtain ⟨hD,rfl⟩:=h1
 have hR : ∀ i W,J i W→Bw.Rd (ρ nb).b l.length (fun j=>l.getD j 0) W:=by
  intro i W hJi
  obtain ⟨ρ',H',hW,hdom,hS⟩:=hJ i W hJi
  have e1:=(hdom nb hD).2
  have hn:H'.f nb=some (.row 1 (Go.Ab.cs [v])):=(hS nb (.inl rfl)).trans hnb
  obtain ⟨sv,hsv,hrel⟩:=Go.Ab.rd_cell hW (n:=nb) (off:=0) (v:=v) (by unfold Go.Ab.AH.rd; rw [hn]; simp [Go.Ab.cs])
  rw [e1] at hsv
  rcases hv with ⟨rfl,rfl⟩ | ⟨m,cc,g,m1,m2,rfl,m4,m5,m6⟩
  ·simp only [Go.Ab.VRel] at hrel
   subst hrel
   exact ⟨_,_,hsv,fun j hj=>by simp at hj⟩
  ·simp only [Go.Ab.VRel] at hrel
   obtain ⟨hDm,a,cap,rfl,hle,hsp,hcase⟩:=hrel
   refine ⟨some a,cap,hsv,fun j hj=>?_⟩
   rcases hcase with ⟨rfl,_⟩ | ⟨h,_⟩
   ·have hm:H'.f m=some (.row cc g):=(hS m (.inr ⟨_,_,_,rfl⟩)).trans m5
    obtain ⟨u,hu,hur⟩:=Go.Ab.rd_cell hW (n:=m) (off:=j) (v:=g j) (by unfold Go.Ab.AH.rd; rw [hm]; simp; omega)
    rw [m6 j hj] at hur
    simp only [Go.Ab.VRel] at hur
    subst hur
    exact ⟨_,_,rfl,by rw [Nat.zero_add]; exact hu⟩
   ·omega
 have hrl:(Go.Ab.revL l).length=l.length:=by unfold Go.Ab.revL; simp
 rw [hrl]
 refine Bw.backward1 lp (ρ nb).b l.length (fun j=>l.getD j 0) hlen J Jx hR (fun i W hi hJi=>?_) w h0
 have he:(Go.Ab.revL l)[i]? = some (((l.length-1-i:Nat):Int),l.getD (l.length-1-i) 0):=by
  unfold Go.Ab.revL
  rw [List.getElem?_map,List.getElem?_range hi]; rfl
 have:=hY i W _ _ he hJi
 rw [show ((l.length-1-i:Nat):Int)=(l.length:Int)-1-(i:Int) by omega] at this
 exact this
end Go.Proofs

namespace Go.Proofs
open Go.Shelf
def Tryz.keysA_ren : Go.Shelf.Ren := ⟨fun | 7 => 46 | 10 => 87 | n => n, fun | 23 => 68 | 26 => 3 | 3 => 48 | 28 => 122 | 0 => 0 | 27 => 121 | 33 => 135 | 4 => 4 | n => n, fun | n => n⟩
theorem Tryz.keysA : Go.Proofs.SlLaysZI.n7 Tryz.prog Tryz.keysA_ren := {
  mixed := by kernel_rfl
  f7 := ⟨Tryz.f46.name, by decide, Tryz.func46.trans (congrArg some (by kernel_rfl))⟩
  f10 := ⟨Tryz.f87.name, by decide, Tryz.func87.trans (congrArg some (by kernel_rfl))⟩
  t0 := Tryz.underlying0
  a0 := Tryz.isAgg0
  z0 := Tryz.sizeOf0
  v0 := Tryz.zeroValue0
  t4 := Tryz.underlying4
  a4 := Tryz.isAgg4
  z4 := Tryz.sizeOf4
  v4 := Tryz.zeroValue4
  t23 := Tryz.underlying68
  a23 := Tryz.isAgg68
  z23 := Tryz.sizeOf68
  v23 := Tryz.zeroValue68
  t26 := Tryz.underlying3
  a26 := Tryz.isAgg3
  z26 := Tryz.sizeOf3
  v26 := Tryz.zeroValue3
  t27 := Tryz.underlying121
  a27 := Tryz.isAgg121
  z27 := Tryz.sizeOf121
  v27 := Tryz.zeroValue121
  t28 := Tryz.underlying122
  a28 := Tryz.isAgg122
  z28 := Tryz.sizeOf122
  v28 := Tryz.zeroValue122
  t33 := Tryz.underlying135
  a33 := Tryz.isAgg135
  z33 := Tryz.sizeOf135
  v33 := Tryz.zeroValue135 }
def Tryz.sortedA_ren : Go.Shelf.Ren := ⟨fun | 6 => 45 | 8 => 85 | 9 => 86 | 11 => 147 | 13 => 149 | 12 => 148 | 23 => 205 | 24 => 206 | 14 => 196 | 15 => 197 | 16 => 198 | 17 => 199 | 18 => 200 | 19 => 201 | 20 => 202 | 21 => 203 | 22 => 204 | 25 => 225 | 26 => 226 | 27 => 227 | 28 => 228 | 29 => 229 | 30 => 180 | 31 => 240 | n => n, fun | 26 => 3 | 28 => 122 | 24 => 61 | 0 => 0 | 3 => 3 | 37 => 223 | 48 => 263 | 50 => 214 | 4 => 4 | 40 => 257 | 39 => 256 | 45 => 112 | 5 => 5 | 9 => 9 | 51 => 281 | 55 => 126 | 57 => 296 | 58 => 297 | 33 => 135 | n => n, fun | n => n⟩
theorem Tryz.sortedA : Go.Proofs.SlLaysZI.n6 Tryz.prog Tryz.sortedA_ren := {
  mixed := by kernel_rfl
  f6 := ⟨Tryz.f45.name, by decide, Tryz.func45.trans (congrArg some (by kernel_rfl))⟩
  f8 := ⟨Tryz.f85.name, by decide, Tryz.func85.trans (congrArg some (by kernel_rfl))⟩
  f11 := ⟨Tryz.f147.name, by decide, Tryz.func147.trans (congrArg some (by kernel_rfl))⟩
  t0 := Tryz.underlying0
  a0 := Tryz.isAgg0
  z0 := Tryz.sizeOf0
  v0 := Tryz.zeroValue0
  t24 := Tryz.underlying61
  a24 := Tryz.isAgg61
  z24 := Tryz.sizeOf61
  v24 := Tryz.zeroValue61
  t26 := Tryz.underlying3
  a26 := Tryz.isAgg3
  z26 := Tryz.sizeOf3
  v26 := Tryz.zeroValue3
  t28 := Tryz.underlying122
  a28 := Tryz.isAgg122
  z28 := Tryz.sizeOf122
  v28 := Tryz.zeroValue122
  i26 := by kernel_rfl }
def Tryz.sortA_ren : Go.Shelf.Ren := ⟨fun | 5 => 86 | 8 => 149 | 7 => 148 | 19 => 205 | 20 => 206 | 10 => 196 | 11 => 197 | 12 => 198 | 13 => 199 | 14 => 200 | 15 => 201 | 16 => 202 | 17 => 203 | 18 => 204 | 30 => 225 | 31 => 226 | 32 => 227 | 33 => 228 | 34 => 229 | 35 => 180 | 40 => 240 | n => n, fun | 23 => 61 | 25 => 3 | 3 => 3 | 32 => 223 | 22 => 61 | 0 => 0 | 44 => 263 | 46 => 214 | 4 => 4 | 36 => 257 | 35 => 256 | 41 => 112 | 5 => 5 | 9 => 9 | 53 => 281 | 57 => 126 | 63 => 296 | 64 => 297 | n => n, fun | n => n⟩
theorem Tryz.sortA : Go.Proofs.SlLaysM.n5 Tryz.prog Tryz.sortA_ren := {
  mixed := by kernel_rfl
  f5 := ⟨Tryz.f86.name, by decide, Tryz.func86.trans (congrArg some (by kernel_rfl))⟩
  f7 := ⟨Tryz.f148.name, by decide, Tryz.func148.trans (congrArg some (by kernel_rfl))⟩
  f8 := Tryz.func149.trans (congrArg some (by kernel_rfl))
  f10 := ⟨Tryz.f196.name, by decide, Tryz.func196.trans (congrArg some (by kernel_rfl))⟩
  f11 := ⟨Tryz.f197.name, by decide, Tryz.func197.trans (congrArg some (by kernel_rfl))⟩
  f12 := ⟨Tryz.f198.name, by decide, Tryz.func198.trans (congrArg some (by kernel_rfl))⟩
  f13 := ⟨Tryz.f199.name, by decide, Tryz.func199.trans (congrArg some (by kernel_rfl))⟩
  f14 := ⟨Tryz.f200.name, by decide, Tryz.func200.trans (congrArg some (by kernel_rfl))⟩
  f15 := ⟨Tryz.f201.name, by decide, Tryz.func201.trans (congrArg some (by kernel_rfl))⟩
  f16 := ⟨Tryz.f202.name, by decide, Tryz.func202.trans (congrArg some (by kernel_rfl))⟩
  f17 := ⟨Tryz.f203.name, by decide, Tryz.func203.trans (congrArg some (by kernel_rfl))⟩
  f18 := ⟨Tryz.f204.name, by decide, Tryz.func204.trans (congrArg some (by kernel_rfl))⟩
  f19 := Tryz.func205.trans (congrArg some (by kernel_rfl))
  f20 := Tryz.func206.trans (congrArg some (by kernel_rfl))
  f30 := ⟨Tryz.f225.name, by decide, Tryz.func225.trans (congrArg some (by kernel_rfl))⟩
  f31 := Tryz.func226.trans (congrArg some (by kernel_rfl))
  f32 := Tryz.func227.trans (congrArg some (by kernel_rfl))
  f33 := ⟨Tryz.f228.name, by decide, Tryz.func228.trans (congrArg some (by kernel_rfl))⟩
  f34 := ⟨Tryz.f229.name, by decide, Tryz.func229.trans (congrArg some (by kernel_rfl))⟩
  f35 := ⟨Tryz.f180.name, by decide, Tryz.func180.trans (congrArg some (by kernel_rfl))⟩
  f40 := ⟨Tryz.f240.name, by decide, Tryz.func240.trans (congrArg some (by kernel_rfl))⟩
  t0 := Tryz.underlying0
  a0 := Tryz.isAgg0
  z0 := Tryz.sizeOf0
  v0 := Tryz.zeroValue0
  t3 := Tryz.underlying3
  a3 := Tryz.isAgg3
  z3 := Tryz.sizeOf3
  v3 := Tryz.zeroValue3
  t4 := Tryz.underlying4
  a4 := Tryz.isAgg4
  z4 := Tryz.sizeOf4
  v4 := Tryz.zeroValue4
  t5 := Tryz.underlying5
  a5 := Tryz.isAgg5
  z5 := Tryz.sizeOf5
  v5 := Tryz.zeroValue5
  t9 := Tryz.underlying9
  a9 := Tryz.isAgg9
  z9 := Tryz.sizeOf9
  v9 := Tryz.zeroValue9
  t22 := Tryz.underlying61
  a22 := Tryz.isAgg61
  z22 := Tryz.sizeOf61
  v22 := Tryz.zeroValue61
  t23 := Tryz.underlying61
  a23 := Tryz.isAgg61
  z23 := Tryz.sizeOf61
  v23 := Tryz.zeroValue61
  t25 := Tryz.underlying3
  a25 := Tryz.isAgg3
  z25 := Tryz.sizeOf3
  v25 := Tryz.zeroValue3
  t32 := Tryz.underlying223
  a32 := Tryz.isAgg223
  z32 := Tryz.sizeOf223
  v32 := Tryz.zeroValue223
  t35 := Tryz.underlying256
  a35 := Tryz.isAgg256
  z35 := Tryz.sizeOf256
  v35 := Tryz.zeroValue256
  t36 := Tryz.underlying257
  a36 := Tryz.isAgg257
  z36 := Tryz.sizeOf257
  v36 := Tryz.zeroValue257
  t41 := Tryz.underlying112
  a41 := Tryz.isAgg112
  z41 := Tryz.sizeOf112
  v41 := Tryz.zeroValue112
  t44 := Tryz.underlying263
  a44 := Tryz.isAgg263
  z44 := Tryz.sizeOf263
  v44 := Tryz.zeroValue263
  t46 := Tryz.underlying214
  a46 := Tryz.isAgg214
  z46 := Tryz.sizeOf214
  v46 := Tryz.zeroValue214
  t53 := Tryz.underlying281
  a53 := Tryz.isAgg281
  z53 := Tryz.sizeOf281
  v53 := Tryz.zeroValue281
  t57 := Tryz.underlying126
  a57 := Tryz.isAgg126
  z57 := Tryz.sizeOf126
  v57 := Tryz.zeroValue126
  t63 := Tryz.underlying296
  a63 := Tryz.isAgg296
  z63 := Tryz.sizeOf296
  v63 := Tryz.zeroValue296
  t64 := Tryz.underlying297
  a64 := Tryz.isAgg297
  z64 := Tryz.sizeOf297
  v64 := Tryz.zeroValue297 }
def Tryz.keysB_ren : Go.Shelf.Ren := ⟨fun | 7 => 99 | 10 => 160 | n => n, fun | 23 => 65 | 26 => 3 | 3 => 164 | 28 => 122 | 0 => 0 | 27 => 121 | 33 => 135 | 4 => 4 | n => n, fun | n => n⟩
theorem Tryz.keysB : Go.Proofs.SlLaysZI.n7 Tryz.prog Tryz.keysB_ren := {
  mixed := by kernel_rfl
  f7 := ⟨Tryz.f99.name, by decide, Tryz.func99.trans (congrArg some (by kernel_rfl))⟩
  f10 := ⟨Tryz.f160.name, by decide, Tryz.func160.trans (congrArg some (by kernel_rfl))⟩
  t0 := Tryz.underlying0
  a0 := Tryz.isAgg0
  z0 := Tryz.sizeOf0
  v0 := Tryz.zeroValue0
  t4 := Tryz.underlying4
  a4 := Tryz.isAgg4
  z4 := Tryz.sizeOf4
  v4 := Tryz.zeroValue4
  t23 := Tryz.underlying65
  a23 := Tryz.isAgg65
  z23 := Tryz.sizeOf65
  v23 := Tryz.zeroValue65
  t26 := Tryz.underlying3
  a26 := Tryz.isAgg3
  z26 := Tryz.sizeOf3
  v26 := Tryz.zeroValue3
  t27 := Tryz.underlying121
  a27 := Tryz.isAgg121
  z27 := Tryz.sizeOf121
  v27 := Tryz.zeroValue121
  t28 := Tryz.underlying122
  a28 := Tryz.isAgg122
  z28 := Tryz.sizeOf122
  v28 := Tryz.zeroValue122
  t33 := Tryz.underlying135
  a33 := Tryz.isAgg135
  z33 := Tryz.sizeOf135
  v33 := Tryz.zeroValue135 }
end Go.Proofs
namespace Go.Proofs
open Go.RowKit Go.Maps Go.Sort Go.Shelf
theorem Tryz.sortsA (m:Nat):AnyZI.SortsIn Tryz.prog Tryz.sortedA_ren Fence.wide m :=
 ⟨fun blk off cap ss W hH hblk hsz=>callsIn_wide.2 (AnyM.slices_Sort_int Tryz.sortA blk off cap ss W hH hblk hsz),
 fun p cap W=>callsIn_wide.2 (AnyM.slices_Sort_int_none Tryz.sortA p cap W)⟩
theorem Tryz.own {w:World} {b:Nat} {es:Array MapEntry} {clock:Nat} {ks:List Int} (hu:Tryz.prog.underlying 3=some (.int .i64)) (hes:w.heap[b]? = some (.map es clock)) (hkeys:es.toList.map MapEntry.key=ks.map (Value.int .i64))
  (hr : ∀ k∈ks,-9223372036854775808≤k∧k<9223372036854775808) (hnd:ks.Nodup) (hb : ∀ e∈es.toList,e.born<clock) (hbi:es.toList.Pairwise (fun e e'=>e.born≠e'.born)) (hlen:ks.length≤2147483648) :
  ∃ D0:DataW Unit,w.ownsMap Tryz.prog 3 (fun _=>some (DataW.nil,[])) b es.size D0∧(intKeys D0).Perm ks∧Maps.size D0=ks.length:=by
 have hsz:es.size=ks.length:=by
  have:=congrArg List.length hkeys
  simpa using this
 have hkey : ∀ e∈es.toList,∃ k,k∈ks∧e.key=.int .i64 k:=by
  intro e he
  have:e.key∈ks.map (Value.int .i64):=by rw [← hkeys]; exact List.mem_map.2 ⟨e,he,rfl⟩
  obtain ⟨k,h1,h2⟩:=List.mem_map.1 this
  exact ⟨k,h1,h2.symm⟩
 have hrd : ∀ e∈es.toList,∀ k,e.key=.int .i64 k→k∈ks→Go.WideElems.rd Tryz.prog 3 (fun _=>some ((DataW.nil:DataW Unit),([]:List MemPlace))) e=some (.int .i64 k,DataW.nil):=by
  intro e he k hk hm
  obtain ⟨key,val,born⟩:=e
  simp only at hk
  subst hk
  exact Go.WideElems.rd_mk (keyOf_int_mk hu (by
   have:=hr k hm
   have m1:IntKind.min .i64 = -9223372036854775808:=by decide
   have m2:IntKind.max .i64=9223372036854775807:=by decide
   simp only [Lit.wf,m1,m2,Bool.and_eq_true,decide_eq_true_eq]
   omega)) (yv:=(DataW.nil,[])) rfl
 refine ⟨_,⟨es,clock,hes,⟨?_,⟨hb,?_,?_⟩,fun e he=>?_⟩,Nat.le_refl _,rfl⟩,?_,?_⟩
 ·rw [hsz]; unfold maxLen; omega
 ·rw [List.nodup_iff_pairwise_ne,List.pairwise_map]; exact hbi
 ·rw [hkeys,List.nodup_iff_pairwise_ne,List.pairwise_map]
  rw [List.nodup_iff_pairwise_ne] at hnd
  exact hnd.imp fun h e=>h (by simpa using e)
 ·obtain ⟨k,h1,h2⟩:=hkey e he
  exact ⟨_,hrd e he k h2 h1⟩
 ·refine List.Perm.trans (List.Perm.map _ (Go.WideShapes.sorted_perm _)) ?_
  rw [List.map_map]
  have:es.toList.map ((fun p=>Go.intOf p.1) ∘ Go.WideElems.rg Tryz.prog 3 (fun _=>some ((DataW.nil:DataW Unit),([]:List MemPlace))))=ks:=by
   have e:es.toList.map (fun e=>Value.int .i64 (Go.intOf (Go.WideElems.rg Tryz.prog 3 (fun _=>some ((DataW.nil:DataW Unit),([]:List MemPlace))) e).1))=es.toList.map MapEntry.key:=by
    refine List.map_congr_left fun e he=>?_
    obtain ⟨k,h1,h2⟩:=hkey e he
    rw [Go.WideElems.rg_of (hrd e he k h2 h1),h2]; rfl
   rw [hkeys] at e
   have h:=congrArg (List.map (fun v=>match v with | Value.int _ i=>i | _=>0)) e
   simpa [List.map_map,Function.comp_def] using h
  rw [this]
 ·show ((es.toList.map (Go.WideElems.rg Tryz.prog 3 _)).foldr DataW.insert []).length=ks.length
  rw [length_sorted]; simpa using hsz
theorem Tryz.skA:Go.Ab.SK Tryz.prog 45 87:=by
 intro w Bm b es clock ks hBm hcell hes hkeys hr hnd hb hbi hlen
 obtain ⟨D0,hown,hperm,hsize⟩:=Tryz.own (by kernel_rfl) hes hkeys hr hnd hb hbi hlen
 have hseq:SeqGives Fence.wide 2 Tryz.prog 87 #[.pointer (some ⟨Bm,0,none⟩)] encZ (fun ss=>ss.Perm (intKeys D0)) (Maps.size D0) w :=
  AnyZI.keys_gives (ρ:=Tryz.keysA_ren) { Tryz.keysA with } Fence.wide _ trivial rfl (by omega) Bm b es.size D0 w hBm hcell hown
 have hmax:Maps.size D0≤maxLen:=by rw [hsize]; unfold maxLen; omega
 have hbytes:Maps.size D0*8≤140737488355328:=by rw [hsize]; omega
 have cS:=AnyZI.sorted_in Tryz.sortedA Fence.wide 5 trivial trivial trivial trivial rfl (by omega) (Tryz.sortsA _) (enters_of Tryz.func86 (by kernel_rfl) rfl) 87 #[.pointer (some ⟨Bm,0,none⟩)] trivial (enters_of Tryz.func87 (by kernel_rfl) rfl) _ _ hmax hbytes _ hseq
 change CallsIn _ _ Tryz.prog 45 _ _ _ at cS
 refine (callsIn_wide.1 cS).mono ?_
 rintro e w' ⟨v,ss,rfl,hS,hrow,hnil,hbel⟩
 refine ⟨v,ss,rfl,hS.trans hperm,?_,hbel.os,hbel.output,hbel.size,hbel.block⟩
 obtain ⟨h1,⟨h2,h3⟩ | ⟨g,cap,cur,h2,h3,h4,h5,h6,h7,h8⟩⟩:=hrow
 ·exact .inl ⟨h2,hnil.1 h2⟩
 ·exact .inr ⟨g,cap,cur,_,h2,h3,h4,h5,by omega,by rw [← h8,Nat.mul_one]⟩
theorem Tryz.skB:Go.Ab.SK Tryz.prog 45 160:=by
 intro w Bm b es clock ks hBm hcell hes hkeys hr hnd hb hbi hlen
 obtain ⟨D0,hown,hperm,hsize⟩:=Tryz.own (by kernel_rfl) hes hkeys hr hnd hb hbi hlen
 have hseq:SeqGives Fence.wide 2 Tryz.prog 160 #[.pointer (some ⟨Bm,0,none⟩)] encZ (fun ss=>ss.Perm (intKeys D0)) (Maps.size D0) w :=
  AnyZI.keys_gives (ρ:=Tryz.keysB_ren) { Tryz.keysB with } Fence.wide _ trivial rfl (by omega) Bm b es.size D0 w hBm hcell hown
 have hmax:Maps.size D0≤maxLen:=by rw [hsize]; unfold maxLen; omega
 have hbytes:Maps.size D0*8≤140737488355328:=by rw [hsize]; omega
 have cS:=AnyZI.sorted_in Tryz.sortedA Fence.wide 5 trivial trivial trivial trivial rfl (by omega) (Tryz.sortsA _) (enters_of Tryz.func86 (by kernel_rfl) rfl) 160 #[.pointer (some ⟨Bm,0,none⟩)] trivial (enters_of Tryz.func160 (by kernel_rfl) rfl) _ _ hmax hbytes _ hseq
 change CallsIn _ _ Tryz.prog 45 _ _ _ at cS
 refine (callsIn_wide.1 cS).mono ?_
 rintro e w' ⟨v,ss,rfl,hS,hrow,hnil,hbel⟩
 refine ⟨v,ss,rfl,hS.trans hperm,?_,hbel.os,hbel.output,hbel.size,hbel.block⟩
 obtain ⟨h1,⟨h2,h3⟩ | ⟨g,cap,cur,h2,h3,h4,h5,h6,h7,h8⟩⟩:=hrow
 ·exact .inl ⟨h2,hnil.1 h2⟩
 ·exact .inr ⟨g,cap,cur,_,h2,h3,h4,h5,by omega,by rw [← h8,Nat.mul_one]⟩
end Go.Proofs

