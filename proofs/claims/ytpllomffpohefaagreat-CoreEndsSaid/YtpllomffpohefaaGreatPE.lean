/- Part 5 of the proof: what the program's functions do, shown of them one by one, over memory by names. -/
import Derived.Test.YtpllomffpohefaaGreatPD
set_option linter.unusedVariables false
set_option linter.unusedSimpArgs false
namespace Go.Ab
open Go Gh
variable {P : Program} {F : Nums}
theorem castSums_bd (l:List Int) : ∀ i:Nat,i≤8→0≤(castSums l i).1∧(castSums l i).1≤8*i∧0≤(castSums l i).2.1∧(castSums l i).2.1≤1099511627776*i∧0≤(castSums l i).2.2.1∧(castSums l i).2.2.1≤64*i∧0≤(castSums l i).2.2.2∧(castSums l i).2.2.2≤8796093022208*i
 | 0,_=>by simp [castSums]
 | i+1,hi=>by
  have ih:=castSums_bd l i (by omega)
  have hv:0≤clamp (l.getD i 0) 0 maxTime∧clamp (l.getD i 0) 0 maxTime≤1099511627776:=by unfold clamp maxTime; omega
  simp only [castSums]
  generalize clamp (l.getD i 0) 0 maxTime=w at hv
  have q1:0≤(i:Int)*i:=Int.mul_nonneg (by omega) (by omega)
  have q2:(i:Int)*i≤8*8:=Int.mul_le_mul (by omega) (by omega) (by omega) (by omega)
  have q3:0≤(i:Int)*w:=Int.mul_nonneg (by omega) hv.1
  have q4:(i:Int)*w≤8*1099511627776:=Int.mul_le_mul (by omega) hv.2 hv.1 (by omega)
  omega
def idxS:Nat→Int
 | 0=>0
 | i+1=>idxS i+i
def sqS:Nat→Int
 | 0=>0
 | i+1=>sqS i+i*i
theorem castSums_i (l:List Int) : ∀ i:Nat,(castSums l i).1=idxS i∧(castSums l i).2.2.1=sqS i
 | 0=>by simp [castSums,idxS,sqS]
 | i+1=>by
  have ih:=castSums_i l i
  simp only [castSums,idxS,sqS]
  rw [ih.1,ih.2]
  exact ⟨rfl,rfl⟩
theorem det_pos {n:Nat} (h:2≤n) (h8:n≤8):0<(n:Int)*sqS n-idxS n*idxS n∧(n:Int)*sqS n-idxS n*idxS n≤1000∧0≤(n:Int)*sqS n∧(n:Int)*sqS n≤5000∧0≤idxS n*idxS n∧idxS n*idxS n≤5000∧0≤(n:Int)*n-idxS n+100∧(n:Int)*n-idxS n≤100∧0≤idxS n∧idxS n≤28:=by
 have:n=2∨n=3∨n=4∨n=5∨n=6∨n=7∨n=8:=by omega
 rcases this with rfl | rfl | rfl | rfl | rfl | rfl | rfl <;> decide
theorem mul_bd {x y:Int} {M K:Nat} (hx:x.natAbs≤M) (hy:y.natAbs≤K):(x*y).natAbs≤M*K:=by
 rw [Int.natAbs_mul]; exact Nat.mul_le_mul hx hy
theorem cast_Next_c (G:Good P F) {v:AV} {l:List Int} (hl:l.length≤8) {H:AH} (hv:IntsAt v l H) :
  ACalls P F.cast_Next [v] H (fun v H'=>v=i64 (castNext l)∧Same H H'):=by
 refine fn_rule G.mixed G.cast_Next rfl [] (fun hcl=>?_)
 rcases hv with ⟨rfl,rfl⟩ | ⟨hne,m,m1,m2,rfl,m3⟩
 ·simp only [go_sem]
  refine EI_i (fun c=>by simp at c) (fun c=>?_)
  simp only [go_sem]
  refine C_loop (fun k l H'=>Same H H'∧l=[(3,i64 0),(4,i64 0),(5,i64 0),(6,i64 0),(7,i64 0),(24,.nils),(25,i64 0),(26,i64 0)]) 0 ⟨Same.mk1,rfl⟩ ?_
  rintro k _ H1 ⟨h1,rfl⟩ _ hcl1
  refine ⟨[],?_⟩
  simp only [go_sem]
  refine EI_i (fun c=>by simp at c) (fun c=>?_)
  simp only [go_sem]
  refine EI_i (fun c=>?_) (fun c=>by simp at c)
  simp only [go_sem]
  exact ⟨rfl,h1.mk'⟩
 ·have hn0:0<l.length:=List.length_pos_iff.2 hne
  simp only [go_sem]
  refine EI_i (fun c=>by simp at c; omega) (fun c=>?_)
  simp only [go_sem]
  refine C_loop (fun k l' H' => ∃ i:Nat,i+k=l.length∧Same H H'∧l'=[(3,i64 l.length),(4,i64 (castSums l i).1),(5,i64 (castSums l i).2.1),(6,i64 (castSums l i).2.2.1),(7,i64 (castSums l i).2.2.2),(24,.slice m 1 0 l.length),(25,i64 l.length),(26,i64 i)]) l.length ⟨0,by omega,Same.mk1,rfl⟩ ?_
  rintro k _ H1 ⟨i,hi,h1,rfl⟩ _ hcl1
  refine ⟨[],?_⟩
  have hm:H1.f m=some (.row l.length (cs (l.map i64))):=h1.some (fun _=>m2) m3
  have hbd:=castSums_bd l i (by omega)
  simp only [go_sem]
  refine EI_i (fun c1=>?_) (fun c1=>?_)
  ·have c1:i<l.length:=by simp at c1; omega
   have c0:(0:Int)≤(i:Int):=by omega
   have c2:(i:Int)<l.length:=by omega
   have e1:cs (l.map i64) i=i64 (l.getD i 0):=by
    unfold cs
    rw [List.getD_eq_getElem?_getD,List.getElem?_map,List.getElem?_eq_getElem c1,List.getD_eq_getElem?_getD,List.getElem?_eq_getElem c1]; rfl
   simp only [go_sem,c0,c2,Int.toNat_natCast,Nat.mul_one,c1,hm,e1]
   refine CA_s [] (num_Clamp_c G (n:=l.getD i 0) (lo:=0) (hi:=1099511627776)) ?_
   rintro _ H2 ⟨rfl,h2⟩ _ _
   have h2:Same H H2:=h1.trans h2.of_mk
   have hv:0≤clamp (l.getD i 0) 0 1099511627776∧clamp (l.getD i 0) 0 1099511627776≤1099511627776:=by unfold clamp; omega
   have hcs:castSums l (i+1)=((castSums l i).1+i,(castSums l i).2.1+clamp (l.getD i 0) 0 1099511627776,(castSums l i).2.2.1+i*i,(castSums l i).2.2.2+i*clamp (l.getD i 0) 0 1099511627776):=rfl
   generalize clamp (l.getD i 0) 0 1099511627776=w at hv hcs
   have q1:0≤(i:Int)*i:=Int.mul_nonneg (by omega) (by omega)
   have q2:(i:Int)*i≤8*8:=Int.mul_le_mul (by omega) (by omega) (by omega) (by omega)
   have q3:0≤(i:Int)*w:=Int.mul_nonneg (by omega) hv.1
   have q4:(i:Int)*w≤8*1099511627776:=Int.mul_le_mul (by omega) hv.2 hv.1 (by omega)
   have w1:IntKind.i64.wrap ((castSums l i).1+i)=(castSums l (i+1)).1:=by rw [hcs,wrap64 (by omega) (by omega)]
   have w2:IntKind.i64.wrap ((castSums l i).2.1+w)=(castSums l (i+1)).2.1:=by rw [hcs,wrap64 (by omega) (by omega)]
   have w3:IntKind.i64.wrap ((i:Int)*i)=(i:Int)*i:=wrap64 (by omega) (by omega)
   have w4:IntKind.i64.wrap ((castSums l i).2.2.1+(i:Int)*i)=(castSums l (i+1)).2.2.1:=by rw [hcs,wrap64 (by omega) (by omega)]
   have w5:IntKind.i64.wrap ((i:Int)*w)=(i:Int)*w:=wrap64 (by omega) (by omega)
   have w6:IntKind.i64.wrap ((castSums l i).2.2.2+(i:Int)*w)=(castSums l (i+1)).2.2.2:=by rw [hcs,wrap64 (by omega) (by omega)]
   have w7:=wrapS (i:=i) (by omega)
   simp only [go_sem,w1,w2,w3,w4,w5,w6,w7]
   exact ⟨k-1,_,rfl,by omega,i+1,by omega,h2.mk',rfl⟩
  ·have c1:i=l.length:=by simp at c1; omega
   subst c1
   have hci:=castSums_i l l.length
   simp only [go_sem]
   refine EI_i (fun c2=>by rw [beq_iff_eq] at c2; omega) (fun c2=>?_)
   simp only [go_sem]
   refine EI_i (fun c3=>?_) (fun c3=>?_)
   ·have c3:l.length=1:=by simp at c3; omega
    simp only [go_sem]
    refine ⟨?_,h1.mk'⟩
    unfold castNext
    simp only
    rw [if_neg (by omega),if_pos (by omega)]
   ·have c3:2≤l.length:=by simp at c3; omega
    have hd:=det_pos c3 hl
    rw [← hci.1,← hci.2] at hd
    have hcn:castNext l=(let n:Int:=l.length
      let p:=castSums l l.length
      let d:=n*p.2.2.1-p.1*p.1
      let up:=p.2.1*d+(n*p.2.2.2-p.1*p.2.1)*(n*n-p.1)
      if up<0 then 0 else clamp (up / (n*d)) 0 maxTime):=by
     unfold castNext
     simp only
     rw [if_neg (by omega),if_neg (by omega)]
    have hb8:=castSums_bd l l.length hl
    generalize castSums l l.length=p at hd hcn hb8
    obtain ⟨p1,p2,p3,p4⟩:=p
    simp only at hd hcn hb8
    have hN:(l.length:Int)≤8:=by omega
    have hN0:2≤(l.length:Int):=by omega
    generalize (l.length:Int)=N at hd hcn hb8 hN hN0
    have x1:=mul_bd (x:=p2) (y:=N*p3-p1*p1) (M:=8796093022208) (K:=1000) (by omega) (by omega)
    have x2:=mul_bd (x:=N) (y:=p4) (M:=8) (K:=70368744177664) (by omega) (by omega)
    have x3:=mul_bd (x:=p1) (y:=p2) (M:=28) (K:=8796093022208) (by omega) (by omega)
    have x4:=mul_bd (x:=N) (y:=N) (M:=8) (K:=8) (by omega) (by omega)
    have x5:=mul_bd (x:=N*p4-p1*p2) (y:=N*N-p1) (M:=900000000000000) (K:=100) (by omega) (by omega)
    have x6:=mul_bd (x:=N) (y:=N*p3-p1*p1) (M:=8) (K:=1000) (by omega) (by omega)
    have x7:0<N*(N*p3-p1*p1):=Int.mul_pos (by omega) (by omega)
    have w1:IntKind.i64.wrap (N*p3)=N*p3:=wrap64 (by omega) (by omega)
    have w2:IntKind.i64.wrap (p1*p1)=p1*p1:=wrap64 (by omega) (by omega)
    have w3:IntKind.i64.wrap (N*p3-p1*p1)=N*p3-p1*p1:=wrap64 (by omega) (by omega)
    have w4:IntKind.i64.wrap (p2*(N*p3-p1*p1))=p2*(N*p3-p1*p1):=wrap64 (by omega) (by omega)
    have w5:IntKind.i64.wrap (N*p4)=N*p4:=wrap64 (by omega) (by omega)
    have w6:IntKind.i64.wrap (p1*p2)=p1*p2:=wrap64 (by omega) (by omega)
    have w7:IntKind.i64.wrap (N*p4-p1*p2)=N*p4-p1*p2:=wrap64 (by omega) (by omega)
    have w8:IntKind.i64.wrap (N*N)=N*N:=wrap64 (by omega) (by omega)
    have w9:IntKind.i64.wrap (N*N-p1)=N*N-p1:=wrap64 (by omega) (by omega)
    have w10:IntKind.i64.wrap ((N*p4-p1*p2)*(N*N-p1))=(N*p4-p1*p2)*(N*N-p1):=wrap64 (by omega) (by omega)
    have w11:IntKind.i64.wrap (p2*(N*p3-p1*p1)+(N*p4-p1*p2)*(N*N-p1))=p2*(N*p3-p1*p1)+(N*p4-p1*p2)*(N*N-p1):=wrap64 (by omega) (by omega)
    have w12:IntKind.i64.wrap (N*(N*p3-p1*p1))=N*(N*p3-p1*p1):=wrap64 (by omega) (by omega)
    have wz:(N*(N*p3-p1*p1)=0)=False:=by simp only [eq_iff_iff,iff_false]; omega
    rw [hcn]
    clear hcn
    simp only [go_sem,w1,w2,w3,w4,w5,w6,w7,w8,w9,w10,w11,w12]
    refine EI_i (fun c4=>?_) (fun c4=>?_)
    ·have c4:p2*(N*p3-p1*p1)+(N*p4-p1*p2)*(N*N-p1)<0:=by simpa using c4
     simp only [go_sem]
     exact ⟨by rw [if_pos c4],h1.mk'⟩
    ·have c4 : ¬ p2*(N*p3-p1*p1)+(N*p4-p1*p2)*(N*N-p1)<0:=by simpa using c4
     have wq:IntKind.i64.wrap ((p2*(N*p3-p1*p1)+(N*p4-p1*p2)*(N*N-p1)).tdiv (N*(N*p3-p1*p1)))=(p2*(N*p3-p1*p1)+(N*p4-p1*p2)*(N*N-p1)) / (N*(N*p3-p1*p1)):=by
      rw [Int.tdiv_eq_ediv_of_nonneg (by omega)]
      have y1:=Int.ediv_nonneg (a:=p2*(N*p3-p1*p1)+(N*p4-p1*p2)*(N*N-p1)) (b:=N*(N*p3-p1*p1)) (by omega) (by omega)
      have y2:=Int.ediv_le_self (a:=p2*(N*p3-p1*p1)+(N*p4-p1*p2)*(N*N-p1)) (N*(N*p3-p1*p1)) (by omega)
      exact wrap64 (by omega) (by omega)
     simp only [go_sem,wz,wq]
     refine CA_s [] (num_Clamp_c G (n:=(p2*(N*p3-p1*p1)+(N*p4-p1*p2)*(N*N-p1)) / (N*(N*p3-p1*p1))) (lo:=0) (hi:=1099511627776)) ?_
     rintro _ H2 ⟨rfl,h2⟩ _ _
     simp only [go_sem]
     refine ⟨?_,(h1.trans h2.of_mk).mk'⟩
     rw [if_neg c4]; rfl
end Go.Ab

namespace Go.Ab
open Go Gh
variable {P : Program} {F : Nums}
theorem policy_fixed_c (G:Good P F) {H:AH}:ACalls P F.policy_fixed [] H (fun v H'=>v=.agg (winC ⟨0,0,10⟩)∧Same H H'):=by
 refine fn_rule G.mixed G.policy_fixed rfl [] (fun hcl=>?_)
 simp only [go_sem]
 exact (Same.mk1.tmp).bmp.set (nold (Int.le_refl _))
theorem policy_ahead_c (G:Good P F) {i:Int} (h0:0≤i) (h1:i≤maxTime) {H:AH}:ACalls P F.policy_ahead [i64 i] H (fun v H'=>v=.agg (winC ⟨2,frac i 85 100,max (fracUp i 115 100) (frac i 85 100+1)⟩)∧Same H H'):=by
 refine fn_rule G.mixed G.policy_ahead rfl [] (fun hcl=>?_)
 unfold maxTime at h1
 simp only [go_sem]
 have hs:=(Same.mk1 (H:=H) (s:=[])).tmp (s:=[]) (q:=0) (o:=.row 3 (cs [i64 0,i64 0,i64 0])) |>.bmp (c:=1)
 refine CA_s [] (num_Frac_c G (n:=i) (up:=85) (down:=100) h0 (by decide) (by decide) (by omega) (by omega) (by decide) (by decide)) ?_
 rintro _ H1 ⟨rfl,h1'⟩ _ _
 have hb1:H1.f ⟨0,H.k,0⟩=some (.row 3 (cs [i64 0,i64 0,i64 0])):=by
  rw [h1'.at_ _ (fun _=>by show H.k<H.k+1; omega)]; simp only [go_sem]
 have hs1:=hs.trans h1'
 simp only [go_sem]
 refine CA_s [] (num_FracUp_c G (n:=i) (up:=115) (down:=100) h0 (by decide) (by decide) (by omega) (by omega) (by decide) (by decide)) ?_
 rintro _ H2 ⟨rfl,h2⟩ _ _
 have hk1:H.k+1≤H1.k:=h1'.k
 have hb2:H2.f ⟨0,H.k,0⟩=some (.row 3 (cs [i64 0,i64 0,i64 0])):=h2.of_mk.some (fun _=>by show H.k<H1.k; omega) hb1
 have hf:frac i 85 100=i*85 / 100:=by unfold frac; rw [part_small h0 (by decide) (by decide) (by unfold maxI; omega)]
 have w1:IntKind.i64.wrap (frac i 85 100+1)=frac i 85 100+1:=by rw [hf]; exact wrap64 (by omega) (by omega)
 simp only [go_sem,w1,hb2]
 exact (hs1.trans h2.of_mk).mk'.set (nold (Int.le_refl _))
theorem policy_Of_c (G:Good P F) {nh nr:Nm} (ht:nh.t≠0) (hr:nr.t≠0) {h:Histo} {r:Ring} (hw:WHist h) (hwr:WRing r) {H:AH} (hn:H.f nh=some (.row 242 (histG h))) (hn':H.f nr=some (.row 9 (ringG r))) :
  ACalls P F.policy_Of [.ptr nh 0,.ptr nr 0] H (fun v H'=>v=.agg (winC (winOf h r))∧Same H H'):=by
 refine fn_rule G.mixed G.policy_Of rfl [] (fun hcl=>?_)
 have hi0:=hw.inn0
 have ho0:=hw.over
 have hal:=hw.all
 have hs:Same H (bmp 1 ((⟨H.f,H.k,[]⟩:AH).set ⟨0,H.k,0⟩ (.row 3 (cs [i64 0,i64 0,i64 0])))):=(Same.mk1.tmp).bmp
 simp only [go_sem]
 refine CA_s [] (histo_In_c G ht (h:=h) (by exact (hs.some (old_of ht) hn))) ?_
 rintro _ H1 ⟨rfl,h1⟩ _ _
 have hb1:H1.f ⟨0,H.k,0⟩=some (.row 3 (cs [i64 0,i64 0,i64 0])):=by
  rw [h1.at_ _ (fun _=>by show H.k<H.k+1; omega)]; simp only [go_sem]
 have hk1:H.k+1≤H1.k:=h1.k
 have hs1:=hs.trans h1
 simp only [go_sem]
 refine CA_s [] (histo_Over_c G ht (h:=h) (by exact (hs1.some (old_of ht) hn))) ?_
 rintro _ H2 ⟨rfl,h2⟩ _ _
 have h2:Same H1 H2:=h2.of_mk
 have hb2:=h2.some (fun _=>by show H.k<H1.k; omega) hb1
 have hk2:H1.k≤H2.k:=h2.k
 have hs2:=hs1.trans h2
 have w1:IntKind.i64.wrap (h.inn+h.over)=h.inn+h.over:=wrap64 (by omega) (by omega)
 have w2:IntKind.i64.wrap (2*h.over)=2*h.over:=wrap64 (by omega) (by omega)
 simp only [go_sem,w1]
 refine EI_i (fun c1=>?_) (fun c1=>?_)
 ·have c1:h.inn+h.over<4:=by simpa using c1
  simp only [go_sem]
  refine CA_s [] (policy_fixed_c G) ?_
  rintro _ H3 ⟨rfl,h3⟩ _ _
  have h3:Same H2 H3:=h3.of_mk
  have hb3:=h3.some (fun _=>by show H.k<H2.k; omega) hb2
  simp only [go_sem,hb3]
  refine ⟨?_,(hs2.trans h3).mk'.set (nold (Int.le_refl _))⟩
  unfold winOf; rw [if_pos c1]
 have c1 : ¬ h.inn+h.over<4:=by simpa using c1
 simp only [go_sem]
 refine CA_s [] (histo_Over_c G ht (h:=h) (by exact (hs2.some (old_of ht) hn))) ?_
 rintro _ H3 ⟨rfl,h3⟩ _ _
 have h3:Same H2 H3:=h3.of_mk
 have hb3:=h3.some (fun _=>by show H.k<H2.k; omega) hb2
 have hk3:H2.k≤H3.k:=h3.k
 have hs3:=hs2.trans h3
 simp only [go_sem,w2]
 refine EI_i (fun c2=>?_) (fun c2=>?_)
 ·have c2:2*h.over>h.inn+h.over:=by simpa using c2
  simp only [go_sem]
  refine CA_s [] (ring_List_c G hr hwr (by exact (hs3.some (old_of hr) hn'))) ?_
  rintro v H4 ⟨hv,h4⟩ _ _
  have h4:Same H3 H4:=h4.of_mk
  have hb4:=h4.some (fun _=>by show H.k<H3.k; omega) hb3
  have hk4:H3.k≤H4.k:=h4.k
  have hs4:=hs3.trans h4
  have hal:=Ring.all_length hwr
  simp only [go_sem]
  refine CA_s [] (cast_Next_c G hal (H:=⟨H4.f,H4.k,[]⟩) hv) ?_
  rintro _ H5 ⟨rfl,h5⟩ _ _
  have h5:Same H4 H5:=h5.of_mk
  have hb5:=h5.some (fun _=>by show H.k<H4.k; omega) hb4
  have hk5:H4.k≤H5.k:=h5.k
  have hs5:=hs4.trans h5
  have hcb:=castNext_bd r.all hal
  simp only [go_sem]
  refine CA_s [] (policy_ahead_c G hcb.1 hcb.2) ?_
  rintro _ H6 ⟨rfl,h6⟩ _ _
  have h6:Same H5 H6:=h6.of_mk
  have hb6:=h6.some (fun _=>by show H.k<H5.k; omega) hb5
  simp only [go_sem,hb6]
  refine ⟨?_,(hs5.trans h6).mk'.set (nold (Int.le_refl _))⟩
  unfold winOf; rw [if_neg c1,if_pos c2]
 have c2 : ¬ 2*h.over>h.inn+h.over:=by simpa using c2
 simp only [go_sem]
 refine CA_s [] (histo_Spread_c G ht hw (by exact (hs3.some (old_of ht) hn))) ?_
 rintro _ H4 ⟨rfl,h4⟩ _ _
 have h4:Same H3 H4:=h4.of_mk
 have hb4:=h4.some (fun _=>by show H.k<H3.k; omega) hb3
 have hk4:H3.k≤H4.k:=h4.k
 have hs4:=hs3.trans h4
 simp only [go_sem]
 refine EI_i (fun c3=>?_) (fun c3=>?_)
 ·simp only [go_sem]
  refine CA_s [] (policy_fixed_c G) ?_
  rintro _ H5 ⟨rfl,h5⟩ _ _
  have h5:Same H4 H5:=h5.of_mk
  have hb5:=h5.some (fun _=>by show H.k<H4.k; omega) hb4
  simp only [go_sem,hb5]
  refine ⟨?_,(hs4.trans h5).mk'.set (nold (Int.le_refl _))⟩
  unfold winOf; rw [if_neg c1,if_neg c2,if_pos c3]
 simp only [go_sem]
 refine CA_s [] (histo_Cut_c G ht hw (p:=5) (by decide) (by exact (hs4.some (old_of ht) hn))) ?_
 rintro _ H5 ⟨⟨b5,rfl⟩,h5⟩ _ _
 have h5:Same H4 H5:=h5.of_mk
 have hb5:=h5.some (fun _=>by show H.k<H4.k; omega) hb4
 have hk5:H4.k≤H5.k:=h5.k
 have hs5:=hs4.trans h5
 simp only [go_sem]
 refine CA_s [] (histo_Cut_c G ht hw (p:=99) (by decide) (by exact (hs5.some (old_of ht) hn))) ?_
 rintro _ H6 ⟨⟨b6,rfl⟩,h6⟩ _ _
 have h6:Same H5 H6:=h6.of_mk
 have hb6:=h6.some (fun _=>by show H.k<H5.k; omega) hb5
 have hk6:H5.k≤H6.k:=h6.k
 have hs6:=hs5.trans h6
 have g1:=cut_bd h 5
 have g2:=cut_bd h 99
 have w3:IntKind.i64.wrap (h.cut 99+1)=h.cut 99+1:=wrap64 (by omega) (by omega)
 simp only [go_sem]
 refine CA_s [] (num_Frac_c G (n:=h.cut 5) (up:=9) (down:=10) g1.1 (by decide) (by decide) (by omega) (by omega) (by decide) (by decide)) ?_
 rintro _ H7 ⟨rfl,h7⟩ _ _
 have h7:Same H6 H7:=h7.of_mk
 have hb7:=h7.some (fun _=>by show H.k<H6.k; omega) hb6
 have hk7:H6.k≤H7.k:=h7.k
 have hs7:=hs6.trans h7
 simp only [go_sem,w3]
 refine CA_s [] (num_FracUp_c G (n:=h.cut 99+1) (up:=11) (down:=10) (by omega) (by decide) (by decide) (by omega) (by omega) (by decide) (by decide)) ?_
 rintro _ H8 ⟨rfl,h8⟩ _ _
 have h8:Same H7 H8:=h8.of_mk
 have hb8:=h8.some (fun _=>by show H.k<H7.k; omega) hb7
 simp only [go_sem,hb8]
 refine ⟨?_,(hs7.trans h8).mk'.set (nold (Int.le_refl _))⟩
 unfold winOf; rw [if_neg c1,if_neg c2,if_neg (by rw [c3]; simp)]
end Go.Ab

namespace Go.Ab
open Go Gh
variable {P : Program} {F : Nums}
def IdsAt (v:AV) (l:List Int) (H:AH):Prop :=
 (l=[]∧v=.nils) ∨ ∃ (m:Nm) (c:Nat) (g:Nat→AV),m.t=0∧m.i<H.k∧v=.slice m 1 0 l.length∧l.length≤c∧H.f m=some (.row c g) ∧ ∀ i,i<l.length→g i=i64 (l.getD i 0)
def Clo (P:Program) (f:FuncId) (env:List AV) (S:Nm→Prop) (H:AH) (l:List Int) (p:Int→Bool):Prop :=
 ∀ x,x∈l → ∀ H',Fra S H H'→ACalls P f (i64 x::env) H' (fun v H''=>v=.bool (p x)∧Same H' H'')
def idxV' (o:Option Nat):Int:=match o with
 | some i=>i
 | none => -1
theorem IndexFunc_c (G:Good P F) {v:AV} {l:List Int} {H:AH} (hv:IdsAt v l H) (hl:l.length<2147483648) {f:FuncId} {env:List AV} {p:Int→Bool} {S:Nm→Prop} (hf:Clo P f env S H l p) :
  ACalls P F.slices_IndexFunc [v,.fn f env] H (fun r H'=>r=i64 (idxV' (l.findIdx? p))∧Same H H'):=by
 refine fn_rule G.mixed G.slices_IndexFunc rfl [] (fun hcl=>?_)
 rcases hv with ⟨rfl,rfl⟩ | ⟨m,c,g,m1,m2,rfl,m3,m4,m5⟩
 ·simp only [go_sem]
  refine C_loop (fun k l' H'=>Same H H'∧l'=[(0,.nils),(1,.fn f env),(7,i64 0),(8,i64 0)]) 0 ⟨Same.mk1,rfl⟩ ?_
  rintro k _ H1 ⟨h1,rfl⟩ _ hcl1
  refine ⟨[],?_⟩
  simp only [go_sem]
  refine EI_i (fun c=>by simp at c) (fun c=>?_)
  simp only [go_sem]
  exact ⟨rfl,h1.mk'⟩
 ·simp only [go_sem]
  refine C_loop (fun k l' H' => ∃ i:Nat,i+k=l.length∧(∀ j,j<i→p (l.getD j 0)=false)∧Same H H'∧l'=[(0,.slice m 1 0 l.length),(1,.fn f env),(7,i64 l.length),(8,i64 i)]) l.length ⟨0,by omega,fun j hj=>by omega,Same.mk1,rfl⟩ ?_
  rintro k _ H1 ⟨i,hi,hp,h1,rfl⟩ _ hcl1
  refine ⟨[],?_⟩
  have hm:H1.f m=some (.row c g):=h1.some (fun _=>m2) m4
  simp only [go_sem]
  refine EI_i (fun c1=>?_) (fun c1=>?_)
  ·have c1:i<l.length:=by simp at c1; omega
   have c0:(0:Int)≤(i:Int):=by omega
   have c2:(i:Int)<l.length:=by omega
   have c3:i<c:=by omega
   simp only [go_sem,c0,c2,c3,Int.toNat_natCast,Nat.mul_one,hm,m5 i c1]
   have hx:l.getD i 0∈l:=by
    rw [List.getD_eq_getElem?_getD,List.getElem?_eq_getElem c1]; exact List.getElem_mem c1
   refine CA_s [] (hf (l.getD i 0) hx ⟨H1.f,H1.k,[]⟩ h1.fra.mk') ?_
   rintro _ H2 ⟨rfl,h2⟩ _ _
   have h2:Same H H2:=h1.trans h2.of_mk
   have w1:=wrapS (i:=i) (by omega)
   simp only [go_sem]
   refine EI_i (fun c4=>?_) (fun c4=>?_)
   ·simp only [go_sem]
    refine ⟨?_,h2.mk'⟩
    have:l.findIdx? p=some i:=by
     rw [List.findIdx?_eq_some_iff_getElem]
     refine ⟨c1,?_,fun j hj=>?_⟩
     ·rw [List.getD_eq_getElem?_getD,List.getElem?_eq_getElem c1] at c4; exact c4
     ·have:=hp j hj
      rw [List.getD_eq_getElem?_getD,List.getElem?_eq_getElem (by omega)] at this
      simp only [Option.getD_some] at this
      rw [this]; simp
    rw [this]; rfl
   ·simp only [go_sem,w1]
    refine ⟨k-1,_,rfl,by omega,i+1,by omega,fun j hj=>?_,h2.mk',rfl⟩
    by_cases e:j=i
    ·subst e; exact c4
    ·exact hp j (by omega)
  ·have c1:i=l.length:=by simp at c1; omega
   simp only [go_sem]
   refine ⟨?_,h1.mk'⟩
   have:l.findIdx? p=none:=by
    rw [List.findIdx?_eq_none_iff]
    intro x hx
    obtain ⟨j,hj,rfl⟩:=List.getElem_of_mem hx
    have:=hp j (by omega)
    rw [List.getD_eq_getElem?_getD,List.getElem?_eq_getElem hj] at this
    exact this
   rw [this]; rfl
theorem getD_appI {a b:List Int} {k:Nat}:(a++b).getD k 0=if k<a.length then a.getD k 0 else b.getD (k-a.length) 0:=by
 simp only [List.getD_eq_getElem?_getD]
 split
 ·rw [List.getElem?_append_left (by assumption)]
 ·rw [List.getElem?_append_right (by omega)]
theorem upd_if {g:Nat→AV} {i q:Nat} {v:AV}:upd g i v q=if q=i then v else g q:=by
 unfold upd
 by_cases h:q=i
 ·simp [h]
 ·rw [show (q==i)=false by simpa using h,if_neg h]; rfl
def inSl (v:AV) (n:Nm):Prop := ∃ e o b,v=.slice n e o b
theorem take_filter {l:List Int} {q:Int→Bool} {j:Nat} (hj:j<l.length):(l.take (j+1)).filter q=(l.take j).filter q++if q (l.getD j 0) then [l.getD j 0] else []:=by
 rw [List.take_add_one,List.filter_append,List.getElem?_eq_getElem hj,List.getD_eq_getElem?_getD,List.getElem?_eq_getElem hj]
 simp only [Option.toList_some,Option.getD_some,List.filter_cons,List.filter_nil]
theorem DeleteFunc_c (G:Good P F) {v:AV} {l:List Int} {H:AH} (hv:IdsAt v l H) (hl:l.length<2147483648) {f:FuncId} {env:List AV} {p:Int→Bool} (hf:Clo P f env (inSl v) H l p) :
  ACalls P F.slices_DeleteFunc [v,.fn f env] H (fun r H'=>IdsAt r (l.filter fun x => !p x) H'∧Fra (inSl v) H H' ∧ ∀ n,inSl r n→inSl v n):=by
 refine fn_rule G.mixed G.slices_DeleteFunc rfl [] (fun hcl=>?_)
 simp only [go_sem]
 refine CA_s [] (IndexFunc_c G (H:=⟨H.f,H.k,[]⟩) hv hl (S:=inSl v) (fun x hx H' h'=>hf x hx H' h'.of_mk)) ?_
 rintro _ H1 ⟨rfl,h1⟩ _ _
 have h1:Same H H1:=h1.of_mk
 simp only [go_sem]
 have hnone : ∀ {P:Prop},((idxV' (l.findIdx? p) == -1)=true→P)→l.findIdx? p=none→P:=by
  intro P hp e; rw [e] at hp; exact hp rfl
 refine EI_i (fun c1=>?_) (fun c1=>?_)
 ·have c1:l.findIdx? p=none:=by
   cases h:l.findIdx? p with
   | none=>rfl
   | some i=>rw [h] at c1; rw [beq_iff_eq] at c1; simp only [idxV'] at c1; omega
  simp only [go_sem]
  have:(l.filter fun x => !p x)=l:=by
   rw [List.filter_eq_self]
   intro x hx
   rw [List.findIdx?_eq_none_iff] at c1
   rw [c1 x hx]; rfl
  rw [this]
  refine ⟨?_,h1.fra.mk',fun n h=>h⟩
  rcases hv with h | ⟨m,c,g,m1,m2,m3,m4,m5,m6⟩
  ·exact .inl h
  ·exact .inr ⟨m,c,g,m1,Int.lt_of_lt_of_le m2 h1.k,m3,m4,h1.some (fun _=>m2) m5,m6⟩
 ·obtain ⟨i0,e0⟩ : ∃ i0,l.findIdx? p=some i0:=by
   cases h:l.findIdx? p with
   | none=>rw [h] at c1; simp [idxV'] at c1
   | some i=>exact ⟨i,rfl⟩
  rw [e0]
  have e0':=e0
  rw [List.findIdx?_eq_some_iff_getElem] at e0'
  obtain ⟨hi0,hpi,hpj⟩:=e0'
  rcases hv with ⟨rfl,_⟩ | ⟨m,c,g,m1,m2,rfl,m4,m5,m6⟩
  ·simp at hi0
  have hS:inSl (.slice m 1 0 l.length) m:=⟨_,_,_,rfl⟩
  have w0:=wrapS (i:=i0) (by omega)
  simp only [idxV']
  simp only [go_sem,w0]
  have f0:(l.take i0).filter (fun x => !p x)=l.take i0:=by
   rw [List.filter_eq_self]
   intro x hx
   obtain ⟨j,hj,rfl⟩:=List.getElem_of_mem hx
   rw [List.length_take] at hj
   have:=hpj j (by omega)
   rw [List.getElem_take]
   simpa using this
  refine C_loop (fun k l' H' => ∃ (i j:Nat) (g':Nat→AV),j+k=l.length∧i<j∧i=((l.take j).filter fun x => !p x).length∧(∀ q,q<i→g' q=i64 (((l.take j).filter fun x => !p x).getD q 0)) ∧
    (∀ q,j≤q→q<l.length→g' q=i64 (l.getD q 0))∧H'.f m=some (.row c g')∧Fra (inSl (.slice m 1 0 l.length)) H H'∧l'=[(0,.slice m 1 0 l.length),(1,.fn f env),(5,i64 i),(6,i64 j)]) (l.length-(i0+1))
   ⟨i0,i0+1,g,by omega,by omega,?_,?_,fun q _ hq=>m6 q hq,h1.some (fun _=>m2) m5,h1.fra.mk',rfl⟩ ?_
  ·rw [take_filter hi0,f0,List.length_append,List.length_take]
   rw [List.getD_eq_getElem?_getD,List.getElem?_eq_getElem hi0]
   simp only [Option.getD_some,hpi,Bool.not_true]
   simp; omega
  ·intro q hq
   rw [take_filter hi0,f0]
   have:(l.take i0).length=i0:=by rw [List.length_take]; omega
   rw [m6 q (by omega),List.getD_eq_getElem?_getD,List.getD_eq_getElem?_getD,List.getElem?_append_left (by omega),List.getElem?_take_of_lt hq]
  rintro k _ H2 ⟨i,j,g',hj,hij,hi,hg,hg2,hm2,hf2,rfl⟩ _ hcl2
  refine ⟨[],?_⟩
  simp only [go_sem]
  have hk2:H.k≤H2.k:=hf2.k
  refine EI_i (fun c2=>?_) (fun c2=>?_)
  ·have c2:j<l.length:=by simp at c2; omega
   have b0:(0:Int)≤(j:Int):=by omega
   have b1:(j:Int)<l.length:=by omega
   have b2:j<c:=by omega
   simp only [go_sem,b0,b1,b2,Int.toNat_natCast,Nat.mul_one,hm2,hg2 j (Nat.le_refl _) c2]
   have hx:l.getD j 0∈l:=by
    rw [List.getD_eq_getElem?_getD,List.getElem?_eq_getElem c2]; exact List.getElem_mem c2
   refine CA_s [] (hf (l.getD j 0) hx ⟨H2.f,H2.k,[]⟩ hf2.mk') ?_
   rintro _ H3 ⟨rfl,h3⟩ _ _
   have h3:Same H2 H3:=h3.of_mk
   have hf3:=hf2.trans h3.fra
   have hm3:H3.f m=some (.row c g'):=h3.some (fun _=>by omega) hm2
   have w1:=wrapS (i:=j) (by omega)
   have w2:=wrapS (i:=i) (by omega)
   have d0:(0:Int)≤(i:Int):=by omega
   have d1:(i:Int)<l.length:=by omega
   have d2:i<c:=by omega
   simp only [go_sem]
   refine EI_i (fun c4=>?_) (fun c4=>?_)
   ·simp only [go_sem,d0,d1,d2,Int.toNat_natCast,Nat.mul_one,hm3,w1,w2]
    have tf:=take_filter (q:=fun x => !p x) c2
    simp only [c4,if_true] at tf
    refine ⟨k-1,_,rfl,by omega,i+1,j+1,upd g' i (i64 (l.getD j 0)),by omega,by omega,?_,?_,?_,rfl,hf3.mk'.set (.inl hS),rfl⟩
    ·rw [tf,List.length_append,← hi]; rfl
    ·intro q hq
     rw [tf]
     rw [upd_if]
     by_cases e:q=i
     ·rw [if_pos e,getD_appI,if_neg (by omega),e,← hi,Nat.sub_self]; rfl
     ·rw [if_neg e,hg q (by omega),getD_appI,if_pos (by omega)]
    ·intro q hq1 hq2
     rw [upd_if]
     rw [if_neg (by omega)]; exact hg2 q (by omega) hq2
   ·simp only [go_sem,w1]
    have tf:=take_filter (q:=fun x => !p x) c2
    simp only [c4,Bool.false_eq_true,if_false,List.append_nil] at tf
    exact ⟨k-1,_,rfl,by omega,i,j+1,g',by omega,by omega,by rw [tf]; exact hi,fun q hq=>by rw [tf]; exact hg q hq,fun q h1 h2=>hg2 q (by omega) h2,hm3,hf3.mk',rfl⟩
  ·have c2:j=l.length:=by simp at c2; omega
   subst c2
   rw [List.take_length] at hi hg
   have d0:(0:Int)≤(i:Int):=by omega
   have d1:(i:Int)≤l.length:=by omega
   have l0:(0:Int)≤0:=by omega
   have t0:Int.toNat 0=0:=rfl
   have z1:(l.length-i=0)=False:=by simp only [eq_iff_iff,iff_false]; omega
   have z2:i+(l.length-i)≤c:=by omega
   have z3:(l.length:Int)≤l.length:=by omega
   simp only [go_sem,d0,d1,l0,t0,Int.toNat_natCast,Nat.mul_one,z1,z2,z3,hm2,Nat.sub_zero]
   refine ⟨.inr ⟨m,c,_,m1,by show m.i<H2.k; omega,by rw [hi],by omega,by simp only [go_sem]; rfl,fun q hq=>?_⟩,hf2.mk'.set (.inl hS),fun n ⟨e,o,b,h⟩=>by cases h; exact hS⟩
   rw [updN_at,if_neg (by omega)]
   exact hg q (by omega)
end Go.Ab

namespace Go.Ab
open Go Gh
def SK (P:Program) (fS fK:FuncId):Prop :=
 ∀ (w:World) (Bm b:Nat) (es:Array MapEntry) (clock:Nat) (ks:List Int),Bm<w.heap.size→w.cell? ⟨Bm,0,none⟩=some (.map (some b))→w.heap[b]? = some (.map es clock) →
  es.toList.map MapEntry.key=ks.map (Value.int .i64)→(∀ k∈ks,-9223372036854775808≤k∧k<9223372036854775808)→ks.Nodup→(∀ e∈es.toList,e.born<clock)→es.toList.Pairwise (fun e e'=>e.born≠e'.born)→ks.length≤2147483648 →
  Calls P fS #[.func (.func fK) #[] #[.pointer (some ⟨Bm,0,none⟩)]] w fun e w' => ∃ (v:Value) (ss:List Int),e=.returned v∧ss.Perm ks ∧
   ((v=.slice none 0 0∧ss=[]) ∨ ∃ g cap cur T,v=.slice (some ⟨g,0,none⟩) ss.length cap∧w.heap.size≤g∧w'.heap[g]? = some (.cells cur T (0,0))∧ss.length≤cap∧cur.size=cap ∧
    cur.toList.take ss.length=(ss.mergeSort (fun x y=>decide (x≤y))).map (Value.int .i64)) ∧
   w'.os=w.os∧w'.output=w.output∧w.heap.size≤w'.heap.size ∧ ∀ k,k<w.heap.size→w'.heap[k]? = w.heap[k]?
abbrev i64v (x:Int):Value:=.int .i64 x
theorem sort_eq {ss ks:List Int} (h:ss.Perm ks) (hs:ks.Pairwise (· < ·)):ss.mergeSort (fun x y=>decide (x≤y))=ks:=by
 refine List.Perm.eq_of_pairwise (le:=(· ≤ ·)) (fun a b _ _ h1 h2=>by omega) ?_ (hs.imp fun h=>by omega) ((List.mergeSort_perm ..).trans h)
 have:=List.pairwise_mergeSort (le:=fun x y:Int=>decide (x≤y)) (fun a b c h1 h2=>by simp at *; omega) (fun a b=>by simp; omega) ss
 exact this.imp fun h=>by simpa using h
section
variable {ρ : Nm → Loc} {H : AH} {w w' : World}
theorem HRel.far (hw:HRel ρ H w) (hs:w.heap.size≤w'.heap.size) (hb : ∀ k,k<w.heap.size→w'.heap[k]? = w.heap[k]?) (ho:w'.os=w.os∧w'.output=w.output):HRel ρ H w'∧Ext ρ ρ H H w w':=by
 refine ⟨⟨?_,?_,hw.inj,hw.tmp,hw.io⟩,⟨fun _ h=>⟨h,rfl⟩,hs,fun b h1 _=>hb b h1,fun n o hn hl _=>⟨n,o,hn,hl,rfl⟩,Int.le_refl _,ho⟩⟩
 ·intro m om hm
  by_cases hl:om.live=true
  ·refine objAt_other (hw.obj m om hm) (fun _ h=>⟨h,rfl⟩) (AH.D_of hm) (hb _ (hw.lt m om hm hl)) ?_ ?_
   ·intro r mp it seen c he
    subst he
    obtain ⟨es,clock,sb,h1,h2,h3,h4,_⟩:=hw.obj m _ hm
    exact ⟨AH.D_of h3,rfl,hb _ (hw.lt it _ h3 rfl)⟩
   ·intro k he; subst he; exact hw.io m k hm
  ·cases om <;> simp [AO.live] at hl
   trivial
 ·intro m om hm hl
  have:=hw.lt m om hm hl
  omega
theorem HRel.newFar (hw:HRel ρ H w) {n:Nm} {c B sz:Nat} {g:Nat→AV} (hn : ¬ H.D n) (ht:n.t=0→n.i≤H.k) (hs:w.heap.size≤w'.heap.size) (hb : ∀ k,k<w.heap.size→w'.heap[k]? = w.heap[k]?) (ho:w'.os=w.os∧w'.output=w.output)
  (hB:w.heap.size≤B) (hB':B<w'.heap.size) {cells:Array Value} {T:TypeId} (h1:w'.heap[B]? = some (.cells cells T (0,0))) (h2:cells.size=sz) (h3:c≤cells.size)
  (h4 : ∀ i,i<c → ∃ k n,g i=.int k n∧cells[i]? = some (.int k n)) :
  HRel (fun m=>if m=n then ⟨B,sz⟩ else ρ m) (H.set n (.row c g)) w'∧Ext ρ (fun m=>if m=n then ⟨B,sz⟩ else ρ m) H (H.set n (.row c g)) w w':=by
 have hnf:H.f n=none:=by
  cases h:H.f n with
  | none=>rfl
  | some o=>exact absurd (AH.D_of h) hn
 have hDD : ∀ m,H.D m→(H.set n (.row c g)).D m∧(if m=n then (⟨B,sz⟩:Loc) else ρ m)=ρ m:=fun m hm =>
  ⟨AH.set_D_mono hm,if_neg (fun (he:m=n)=>hn (he ▸ hm))⟩
 refine ⟨⟨?_,?_,?_,?_,?_⟩,⟨hDD,hs,?_,?_,Int.le_refl _,ho⟩⟩
 ·intro m om hm
  by_cases hmn:m=n
  ·subst hmn; rw [AH.set_same] at hm; cases hm
   refine ⟨cells,T,by simpa using h1,by simpa using h2,h3,fun i hi=>?_⟩
   obtain ⟨k,q,e1,e2⟩:=h4 i hi
   exact ⟨_,e2,by rw [e1]; rfl⟩
  ·rw [AH.set_ne H _ hmn] at hm
   by_cases hl:om.live=true
   ·refine objAt_other (hw.obj m om hm) hDD (AH.D_of hm) (hb _ (hw.lt m om hm hl)) ?_ ?_
    ·intro r mp it seen c he
     subst he
     obtain ⟨es,clock,sb,h1,h2,h3,h4,_⟩:=hw.obj m _ hm
     have hitn:it≠n:=fun he=>by subst he; rw [hnf] at h3; cases h3
     exact ⟨AH.D_of h3,AH.set_ne H _ hitn,hb _ (hw.lt it _ h3 rfl)⟩
    ·intro k he; subst he; exact hw.io m k hm
   ·cases om <;> simp [AO.live] at hl
    trivial
 ·intro m om hm hl
  by_cases hmn:m=n
  ·subst hmn; simpa using hB'
  ·rw [AH.set_ne H _ hmn] at hm
   have:=hw.lt m om hm hl
   simp [hmn]; omega
 ·intro m1 m2 o1 o2 h1 h2 l1 l2 he
  by_cases e1:m1=n <;> by_cases e2:m2=n
  ·rw [e1,e2]
  ·subst e1
   rw [AH.set_ne H _ e2] at h2
   have:=hw.lt m2 o2 h2 l2
   simp [e2] at he; omega
  ·subst e2
   rw [AH.set_ne H _ e1] at h1
   have:=hw.lt m1 o1 h1 l1
   simp [e1] at he; omega
  ·rw [AH.set_ne H _ e1] at h1
   rw [AH.set_ne H _ e2] at h2
   simp [e1,e2] at he
   exact hw.inj m1 m2 o1 o2 h1 h2 l1 l2 he
 ·intro m ht' hk
  by_cases hmn:m=n
  ·subst hmn
   have:=ht ht'
   have hk':H.k<m.i:=hk
   omega
  ·rw [AH.set_ne H _ hmn]; exact hw.tmp m ht' hk
 ·intro m k hm
  by_cases hmn:m=n
  ·subst hmn; rw [AH.set_same] at hm; cases hm
  ·rw [AH.set_ne H _ hmn] at hm; exact AH.set_D_mono (hw.io m k hm)
 ·intro b h1 _; exact hb b h1
 ·intro m om hm hl hb'
  by_cases hmn:m=n
  ·subst hmn; simp at hb'; omega
  ·rw [AH.set_ne H _ hmn] at hm
   exact ⟨m,om,hm,hl,by simp [hmn]⟩
end
theorem Sorted_c {P:Program} {fS fK:FuncId} (hC:Callable P fS) (hSK:SK P fS fK) {nb n:Nm} {m:List Int→Option AV} {ks:List Int} {H:AH} (hb:H.f nb=some (.row 1 (cs [.map n]))) (hm:H.f n=some (.mp 1 m))
  (hk : ∀ x,m [x]≠none↔x∈ks) (hs:ks.Pairwise (· < ·)) (hr : ∀ k∈ks,-9223372036854775808≤k∧k<9223372036854775808) (hl:ks.length≤2147483648) :
  ACalls P fS [.fn fK [.ptr nb 0]] H (fun v H'=>IdsAt v ks H'∧Same H H' ∧ ∀ q,inSl v q→H.k≤q.i):=by
 refine ⟨hC,fun ρ w vs hw hcl hv=>?_⟩
 obtain ⟨v1,rfl,c,rfl,hc⟩ : ∃ v1,vs=[v1] ∧ ∃ c:Array Value,v1=.func (.func fK) #[] c∧VRels ρ H.D [.ptr nb 0] c.toList:=by
  cases vs with
  | nil=>exact hv.elim
  | cons v r =>
   cases r with
   | nil=>obtain ⟨⟨c,h1,h2⟩,_⟩:=hv; exact ⟨v,rfl,c,h1,h2⟩
   | cons a b=>exact hv.2.elim
 obtain ⟨cl⟩:=c
 obtain ⟨rfl⟩:cl=[.pointer (some ⟨(ρ nb).b,0,none⟩)]:=by
  cases cl with
  | nil=>exact hc.elim
  | cons v r =>
   cases r with
   | nil=>obtain ⟨⟨_,h1⟩,_⟩:=hc; rw [h1]
   | cons a b=>exact hc.2.elim
 obtain ⟨cells,T,b1,b2,b3,b4⟩:=hw.obj nb _ hb
 obtain ⟨v0,b5,b6⟩:=b4 0 (by omega)
 have b7:v0=.map (some (ρ n).b):=b6.2
 subst b7
 have hcell:w.cell? ⟨(ρ nb).b,0,none⟩=some (.map (some (ρ n).b)):=by
  unfold World.cell?
  rw [b1]
  simpa using b5
 obtain ⟨es,clock,m1,m2⟩:=hw.obj n _ hm
 have kf : ∀ e,e∈es.toList → ∃ i:Int,e.key=.int .i64 i∧m [i]≠none:=by
  intro e he
  obtain ⟨key,v,h1,h2,h3,_⟩:=m2.fwd e he
  obtain ⟨i,rfl⟩:=List.length_eq_one_iff.1 h1
  refine ⟨i,(Option.some.inj h2).symm,by rw [h3]; simp⟩
 let kk:MapEntry→Int:=fun e=>match e.key with
  | .int _ i=>i
  | _=>0
 have kk1 : ∀ e,e∈es.toList→e.key=.int .i64 (kk e):=by
  intro e he
  obtain ⟨i,h1,_⟩:=kf e he
  show e.key=.int .i64 (match e.key with | .int _ i=>i | _=>0)
  rw [h1]
 have hkm:es.toList.map MapEntry.key=(es.toList.map kk).map (Value.int .i64):=by
  rw [List.map_map]
  exact List.map_congr_left fun e he=>kk1 e he
 have hnd:(es.toList.map kk).Nodup:=by
  rw [List.nodup_iff_pairwise_ne,List.pairwise_map]
  refine m2.inj.imp_of_mem ?_
  intro a b ha hb hne he
  exact hne (by rw [kk1 a ha,kk1 b hb,he])
 have hks:ks.Nodup:=by
  rw [List.nodup_iff_pairwise_ne]; exact hs.imp fun h=>by omega
 have hperm:(es.toList.map kk).Perm ks:=by
  rw [List.perm_ext_iff_of_nodup hnd hks]
  intro x
  rw [← hk x,List.mem_map]
  constructor
  ·rintro ⟨e,he,rfl⟩
   obtain ⟨i,h1,h2⟩:=kf e he
   have:=kk1 e he
   rw [h1] at this
   simp only [Value.int.injEq,true_and] at this
   rw [← this]; exact h2
  ·intro hx
   obtain ⟨v,hv'⟩:=Option.ne_none_iff_exists'.1 hx
   obtain ⟨e,he,h1⟩:=m2.bwd _ _ hv'
   refine ⟨e,he,?_⟩
   have:=kk1 e he
   rw [← Option.some.inj h1] at this
   simp only [Value.int.injEq,true_and] at this
   exact this.symm
 have hlt:(ρ nb).b<w.heap.size:=hw.lt nb _ hb rfl
 refine (hSK w (ρ nb).b (ρ n).b es clock _ hlt hcell m1 hkm (fun k hk'=>hr k (hperm.mem_iff.1 hk')) hnd m2.born m2.binj (by rw [hperm.length_eq]; exact hl)).mono ?_
 rintro e w' ⟨v,ss,rfl,hss,hv',ho1,ho2,hsz,hblk⟩
 have hse:=sort_eq (hss.trans hperm) hs
 have hlen:ss.length=ks.length:=(hss.trans hperm).length_eq
 rcases hv' with ⟨rfl,rfl⟩ | ⟨g,cap,cur,T',rfl,hg,hgb,hcap,hcur,htk⟩
 ·have:ks=[]:=List.length_eq_zero_iff.1 hlen.symm
  obtain ⟨h1,h2⟩:=hw.far hsz hblk ⟨ho1,ho2⟩
  refine ⟨.nils,_,ρ,H,rfl,⟨.inl ⟨this,rfl⟩,Same.refl H,?_⟩,h1,hcl,rfl,h2⟩
  rintro q ⟨e,o,b,h⟩
  cases h
 ·rw [hse] at htk
  have hnD : ¬ H.D ⟨0,H.k,0⟩:=by
   rintro (h | ⟨_,h⟩)
   ·exact h (hcl 0)
   ·exact absurd h (by show ¬ H.k<H.k; omega)
  have hgl:g<w'.heap.size:=by
   rcases Nat.lt_or_ge g w'.heap.size with h | h
   ·exact h
   ·rw [Array.getElem?_eq_none h] at hgb; cases hgb
  have hcu : ∀ i,i<ks.length→cur[i]? = some (i64v (ks.getD i 0)):=by
   intro i hi
   have:=congrArg (fun l=>l[i]?) htk
   simp only [List.getElem?_map,List.getElem?_take] at this
   rw [if_pos (by omega),List.getElem?_eq_getElem hi] at this
   rw [List.getD_eq_getElem?_getD,List.getElem?_eq_getElem hi]
   simpa using this
  obtain ⟨h1,h2⟩:=hw.newFar (n:=⟨0,H.k,0⟩) (c:=ks.length) (B:=g) (sz:=cap) (g:=fun i=>i64 (ks.getD i 0)) hnD (fun _=>Int.le_refl _) hsz hblk ⟨ho1,ho2⟩ hg hgl hgb hcur (by omega) (fun i hi=>⟨.i64,ks.getD i 0,rfl,hcu i hi⟩)
  ·have hp:PClean (H.set ⟨0,H.k,0⟩ (.row ks.length fun i=>i64 (ks.getD i 0))) [0]:=by
    intro j hj
    show (H.set ⟨0,H.k,0⟩ _).f ⟨0,H.k,j⟩=none
    rw [AH.set_ne H _ (fun e=>by have:=congrArg Nm.j e; exact hj 0 (by simp) this.symm)]
    exact hcl j
   obtain ⟨h3,h4,h5⟩:=PClean.call (bm:=1) h1 hp (by omega)
   have hk':(bmp 1 (H.set ⟨0,H.k,0⟩ (.row ks.length fun i=>i64 (ks.getD i 0)))).k=H.k+1:=rfl
   refine ⟨.slice ⟨0,H.k,0⟩ 1 0 ks.length,_,_,_,rfl,⟨.inr ⟨⟨0,H.k,0⟩,ks.length,_,rfl,?_,rfl,Nat.le_refl _,?_,fun i _=>rfl⟩,?_,?_⟩,h3,h4,?_,h2.trans h5⟩
   ·show H.k<H.k+1; omega
   ·simp only [go_sem]
   ·exact ((Same.refl H).set (nold (Int.le_refl _))).bmp
   ·rintro q ⟨e,o,b,h⟩
    cases h; exact Int.le_refl _
   ·refine ⟨.inr ⟨rfl,by show H.k<H.k+1; omega⟩,⟨g,0,none⟩,cap,?_,by omega,rfl,.inl ⟨?_,fun _=>?_⟩⟩
    ·rw [hlen]
    ·simp
    ·simp
end Go.Ab

namespace Go.Ab
open Go Gh
variable {P : Program} {F : Nums}
theorem callable_of {f:FuncId} {g:Fn} (hc:chkFn P f g=true):Callable P f:=by
 unfold chkFn at hc
 cases hf:P.funcs[f]? with
 | none=>simp [hf] at hc
 | some fn =>
  simp only [hf] at hc
  cases hb:fn.body with
  | none=>simp [hb] at hc
  | some c =>
   simp only [hb,Bool.and_eq_true,bne_iff_ne,ne_eq] at hc
   exact ⟨fn,hf,by simp [hb],hc.1.1.1⟩
structure Env (P:Program) (F:Nums):Prop where
 g:Good P F
 sb:SK P F.slices_Sorted F.Keys_box_1
 sf:SK P F.slices_Sorted F.Keys_fn_1
theorem Keys_box_c (E:Env P F) {n:Nm} {H:AH} :
  ACalls P F.Keys_box [.map n] H (fun v H'=>v=.fn F.Keys_box_1 [.ptr ⟨0,H.k,0⟩ 0]∧H'.f ⟨0,H.k,0⟩=some (.row 1 (cs [.map n]))∧H.k+1≤H'.k∧Same H H'):=by
 refine fn_rule E.g.mixed E.g.Keys_box rfl [] (fun hcl=>?_)
 simp only [go_sem]
 exact ⟨by show H.k+1≤H.k+1; omega,(Same.mk1.tmp).bmp⟩
structure IdsOk (boxes:List Box):Prop where
 s:(boxes.map Box.id).Pairwise (· < ·)
 r : ∀ b∈boxes,0≤b.id∧b.id<4611686018427387904
 l:boxes.length<2147483648
theorem findB_mem {boxes:List Box} {b:Box} (h:IdsOk boxes) (hb:b∈boxes):findB boxes b.id=some b:=by
 unfold findB
 have hs:=h.s
 clear h
 induction boxes with
 | nil=>cases hb
 | cons a r ih =>
  rw [List.map_cons,List.pairwise_cons] at hs
  rw [List.find?_cons]
  rcases List.mem_cons.1 hb with rfl | hb'
  ·simp
  ·have:a.id<b.id:=hs.1 _ (List.mem_map.2 ⟨b,hb',rfl⟩)
   have e:(a.id==b.id)=false:=by simp; omega
   rw [e]
   exact ih hb' hs.2
theorem findB_some {boxes:List Box} {i:Int} {b:Box} (h:findB boxes i=some b):b∈boxes∧b.id=i:=by
 unfold findB at h
 exact ⟨List.mem_of_find?_eq_some h,by have:=List.find?_some h; simpa using this⟩
theorem findB_iff {boxes:List Box} {i:Int}:findB boxes i≠none↔i∈boxes.map Box.id:=by
 rw [List.mem_map]
 constructor
 ·intro h
  obtain ⟨b,hb⟩:=Option.ne_none_iff_exists'.1 h
  have:=findB_some hb
  exact ⟨b,this.1,this.2⟩
 ·rintro ⟨b,hb,rfl⟩ he
  unfold findB at he
  rw [List.find?_eq_none] at he
  exact he b hb (by simp)
theorem core_ids_c (E:Env P F) {c:Nat} {s:CS} {o:AV} {boxes:List Box} {H:AH} (hc:H.f (nC c)=some (.row 16 (cs (coreC c s o)))) (hm:H.f (nBoxes c)=some (.mp 1 (ptrMap (nBox c) (findB boxes)))) (hi:IdsOk boxes) :
  ACalls P F.core_ids [.ptr (nC c) 0] H (fun v H'=>IdsAt v (boxes.map Box.id) H'∧Same H H' ∧ ∀ q,inSl v q→H.k≤q.i):=by
 refine fn_rule E.g.mixed E.g.core_ids rfl [] (fun hcl=>?_)
 simp only [go_sem,hc]
 refine CA_s [] (Keys_box_c E) ?_
 rintro _ H1 ⟨rfl,h1,hk1,hs1⟩ _ _
 have hs1:Same H H1:=hs1.of_mk
 have hk1:H.k+1≤H1.k:=hk1
 simp only [go_sem]
 refine CA_s [] (Sorted_c (callable_of E.g.slices_Sorted) E.sb (H:=⟨H1.f,H1.k,[]⟩) (n:=nBoxes c) (ks:=boxes.map Box.id) h1 (hs1.some (old_of tg_ne0) hm) (fun x=>?_) hi.s ?_ (by have:=hi.l; simp; omega)) ?_
 ·show (findB boxes x).map _≠none↔_
  rw [← findB_iff]
  cases findB boxes x <;> simp
 ·intro k hk
  obtain ⟨b,hb,rfl⟩:=List.mem_map.1 hk
  have:=hi.r b hb
  omega
 rintro v H2 ⟨h2,hs2,hv⟩ _ _
 have hs2:Same H1 H2:=hs2.of_mk
 simp only [go_sem]
 refine ⟨h2,(hs1.trans hs2).mk',fun q hq=>?_⟩
 have:H1.k≤q.i:=hv q hq
 omega
def CloB (P:Program) (c:Nat) (f:FuncId) (env:List AV) (H:AH) (boxes:List Box) (p:Box→Bool):Prop :=
 ∀ b,b∈boxes → ∀ H',Same H H'→ACalls P f (.ptr (nBox c b.id) 0::env) H' (fun v H''=>v=.bool (p b)∧Same H' H'')
theorem core_where_1_c (E:Env P F) {c:Nat} {s:CS} {o:AV} {boxes:List Box} {H:AH} (hc:H.f (nC c)=some (.row 16 (cs (coreC c s o)))) (hm:H.f (nBoxes c)=some (.mp 1 (ptrMap (nBox c) (findB boxes)))) (hi:IdsOk boxes)
  {f:FuncId} {env:List AV} {p:Box→Bool} (hf:CloB P c f env H boxes p) {n1 n2:Nm} (h1:H.f n1=some (.row 1 (cs [.fn f env]))) (h2:H.f n2=some (.row 1 (cs [.ptr (nC c) 0]))) {b:Box} (hb:b∈boxes) :
  ACalls P F.core_where_1 [i64 b.id,.ptr n1 0,.ptr n2 0] H (fun v H'=>v=.bool (!p b)∧Same H H'):=by
 refine fn_rule E.g.mixed E.g.core_where_1 rfl [] (fun hcl=>?_)
 have e1:ptrMap (nBox c) (findB boxes) [b.id]=some (.ptr (nBox c b.id) 0):=by
  show (findB boxes b.id).map _=_
  rw [findB_mem hi hb]; rfl
 simp only [go_sem,h1,h2,hc,hm,e1,Option.getD_some]
 refine CA_s [] (hf b hb ⟨H.f,H.k,[]⟩ Same.mk1) ?_
 rintro _ H1 ⟨rfl,hs⟩ _ _
 simp only [go_sem]
 exact hs.of_mk.mk'
theorem core_where_c (E:Env P F) {c:Nat} {s:CS} {o:AV} {boxes:List Box} {H:AH} (hc:H.f (nC c)=some (.row 16 (cs (coreC c s o)))) (hm:H.f (nBoxes c)=some (.mp 1 (ptrMap (nBox c) (findB boxes)))) (hi:IdsOk boxes)
  {f:FuncId} {env:List AV} {p:Box→Bool} (hf:CloB P c f env H boxes p) :
  ACalls P F.core_where [.ptr (nC c) 0,.fn f env] H (fun v H'=>IdsAt v ((boxes.filter p).map Box.id) H'∧Same H H' ∧ ∀ q,inSl v q→H.k≤q.i):=by
 refine fn_rule E.g.mixed E.g.core_where rfl [] (fun hcl=>?_)
 have n1:(⟨0,H.k,0⟩:Nm)≠⟨0,H.k,1⟩:=tmp_ne (by decide)
 have hs0:=((((Same.mk' (s:=([]:List Nm)) (Same.refl H)).set (nold (Int.le_refl _)) (n:=⟨0,H.k,0⟩) (o:=.row 1 (cs [.ptr (nC c) 0]))).set (nold (Int.le_refl _)) (n:=⟨0,H.k,1⟩) (o:=.row 1 (cs [.fn f env]))).bmp (c:=2))
 simp only [go_sem,n1,n1.symm]
 refine CA_s [] (core_ids_c E (s:=s) (o:=o) (boxes:=boxes) (hs0.some (old_of tg_ne0) hc) (hs0.some (old_of tg_ne0) hm) hi) ?_
 rintro v H1 ⟨hv,hs1,hq⟩ hk1 _
 have hk1:H.k+1≤H1.k:=hk1
 have hq : ∀ q,inSl v q→H.k+1≤q.i:=hq
 have e1:H1.f ⟨0,H.k,0⟩=some (.row 1 (cs [.ptr (nC c) 0])):=hs1.some (fun _=>by show H.k<H.k+1; omega) (by simp only [go_sem,n1])
 have e2:H1.f ⟨0,H.k,1⟩=some (.row 1 (cs [.fn f env])):=hs1.some (fun _=>by show H.k<H.k+1; omega) (by simp only [go_sem])
 have hs1:=hs0.trans hs1
 have hfs : ∀ {H':AH},Fra (inSl v) ⟨H1.f,H1.k,[]⟩ H'→Same H H':=fun {H'} h=>⟨by have:=h.k; have:H1.k≤H'.k:=this; omega,fun n hn=>by
  rw [h.at_ n (fun h0=>by have:=hn h0; show n.i<H1.k; omega) (fun hin=>?_)]
  ·exact hs1.at_ n hn
  ·rcases Nat.eq_zero_or_pos n.t with h0 | h0
   ·have:=hq n hin; have:=hn h0; omega
   ·rcases hv with ⟨_,rfl⟩ | ⟨m,cc,g,h1,_,rfl,_⟩
    ·obtain ⟨_,_,_,h⟩:=hin; cases h
    ·obtain ⟨_,_,_,h⟩:=hin; cases h; omega⟩
 have hfr : ∀ {H':AH},Fra (inSl v) ⟨H1.f,H1.k,[]⟩ H' → ∀ j,H'.f ⟨0,H.k,j⟩=H1.f ⟨0,H.k,j⟩:=fun {H'} h j=>by
  refine h.at_ _ (fun _=>by show H.k<H1.k; omega) (fun hin=>?_)
  have:H.k+1≤H.k:=hq _ hin
  omega
 simp only [go_sem]
 refine CA_s [] (DeleteFunc_c E.g (H:=⟨H1.f,H1.k,[]⟩) (l:=boxes.map Box.id) (p:=fun i=>match findB boxes i with | some b => !p b | none=>true) hv (by have:=hi.l; simpa using this) ?_) ?_
 ·intro x hx H' hfr'
  obtain ⟨b,hb,rfl⟩:=List.mem_map.1 hx
  have hsm:=hfs hfr'
  simp only [findB_mem hi hb]
  exact core_where_1_c E (s:=s) (o:=o) (boxes:=boxes) (hsm.some (old_of tg_ne0) hc) (hsm.some (old_of tg_ne0) hm) hi (fun b' hb' H'' h''=>hf b' hb' H'' (hsm.trans h'')) (by rw [hfr hfr' 1]; exact e2) (by rw [hfr hfr' 0]; exact e1) hb
 rintro w H2 ⟨h2,hf2,hin⟩ _ _
 simp only [go_sem]
 have hfl:((boxes.map Box.id).filter fun x => !(match findB boxes x with | some b => !p b | none=>true))=(boxes.filter p).map Box.id:=by
  rw [List.filter_map]
  refine congrArg _ (List.filter_congr fun b hb=>?_)
  simp only [Function.comp_apply,findB_mem hi hb,Bool.not_not]
 rw [hfl] at h2
 exact ⟨h2,(hfs hf2).mk',fun q hq'=>by have:=hq q (hin q hq'); omega⟩
end Go.Ab

namespace Go.Ab
open Go Gh
section
variable {F : Nums} {c : Nat} {o : AV} {s : CS} {H H' : AH} {S : Nm → Prop}
theorem out_keep {out:List Cmd} (h:OutAt o out H) (hf:Fra S H H') (hS : ∀ n,S n→n.t=0→False) : ∀ n:Nm,isOut o n→H'.f n=H.f n:=by
 rintro n ⟨len,rfl⟩
 rcases h with ⟨_,e⟩ | ⟨_,m,_,m0,m1,e,_⟩
 ·cases e
 ·cases e
  exact hf.at_ n (fun _=>m1) (fun h=>hS n h m0)
theorem CoreAt.q' {acc:Nat→Acc} {qf:Nat→QF} (h:CoreAt F c o s H) (hf:Fra S H H') (hS : ∀ n,S n→n.t=tg c 2) (hx:QAt c acc qf H'):CoreAt F c o { s with acc:=acc,qf:=qf } H':=by
 have k : ∀ j,(j≠2) → ∀ n:Nm,n.t=tg c j→H'.f n=H.f n:=fun j hj n hn=>hf.at_ n (old_of (by rw [hn]; exact tg_ne0)) (fun h=>by
  have h:=hS n h
  rw [hn] at h
  simp only [tg_inj] at h
  omega)
 exact ⟨by rw [k 1 (by decide) _ rfl]; exact h.core,
  hx,
  h.tok.congr fun n hn=>by
   rcases hn with e | e
   ·exact k 3 (by decide) n e
   ·exact k 4 (by decide) n e,
  h.fns.congr fun n hn=>by
   rcases hn with e | e | e | e
   ·exact k 5 (by decide) n e
   ·exact k 6 (by decide) n e
   ·exact k 7 (by decide) n e
   ·exact k 8 (by decide) n e,
  by unfold HostsAt; rw [k 9 (by decide) _ rfl]; exact h.hosts,
  h.caches.congr fun n hn=>by
   rcases hn with e | e | e | e | e
   ·exact k 10 (by decide) n e
   ·exact k 11 (by decide) n e
   ·exact k 12 (by decide) n e
   ·exact k 13 (by decide) n e
   ·exact k 14 (by decide) n e,
  h.boxes.congr fun n hn=>by
   rcases hn with e | e
   ·exact k 15 (by decide) n e
   ·exact k 16 (by decide) n e,
  by unfold AheadAt; rw [k 17 (by decide) _ rfl]; exact h.ahead,
  h.timers.congr fun n hn=>by
   rcases hn with e | e | e | e
   ·exact k 18 (by decide) n e
   ·exact k 19 (by decide) n e
   ·exact k 20 (by decide) n e
   ·exact k 21 (by decide) n e,
  h.out.congr hf.k (out_keep h.out hf fun n hn h0=>by have:=hS n hn; simp only [h0,tg_ne0',or_self] at this)⟩
theorem CoreAt.tok' {x:Int→Option Bkt} (h:CoreAt F c o s H) (hf:Fra S H H') (hS : ∀ n,S n→n.t=tg c 3∨n.t=tg c 4) (hx:TokAt c x H'):CoreAt F c o { s with tok:=x } H':=by
 have k : ∀ j,(j≠3∧j≠4) → ∀ n:Nm,n.t=tg c j→H'.f n=H.f n:=fun j hj n hn=>hf.at_ n (old_of (by rw [hn]; exact tg_ne0)) (fun h=>by
  have h:=hS n h
  rw [hn] at h
  simp only [tg_inj] at h
  omega)
 exact ⟨by rw [k 1 (by decide) _ rfl]; exact h.core,
  by unfold QAt; rw [k 2 (by decide) _ rfl]; exact h.q,
  hx,
  h.fns.congr fun n hn=>by
   rcases hn with e | e | e | e
   ·exact k 5 (by decide) n e
   ·exact k 6 (by decide) n e
   ·exact k 7 (by decide) n e
   ·exact k 8 (by decide) n e,
  by unfold HostsAt; rw [k 9 (by decide) _ rfl]; exact h.hosts,
  h.caches.congr fun n hn=>by
   rcases hn with e | e | e | e | e
   ·exact k 10 (by decide) n e
   ·exact k 11 (by decide) n e
   ·exact k 12 (by decide) n e
   ·exact k 13 (by decide) n e
   ·exact k 14 (by decide) n e,
  h.boxes.congr fun n hn=>by
   rcases hn with e | e
   ·exact k 15 (by decide) n e
   ·exact k 16 (by decide) n e,
  by unfold AheadAt; rw [k 17 (by decide) _ rfl]; exact h.ahead,
  h.timers.congr fun n hn=>by
   rcases hn with e | e | e | e
   ·exact k 18 (by decide) n e
   ·exact k 19 (by decide) n e
   ·exact k 20 (by decide) n e
   ·exact k 21 (by decide) n e,
  h.out.congr hf.k (out_keep h.out hf fun n hn h0=>by have:=hS n hn; simp only [h0,tg_ne0',or_self] at this)⟩
theorem CoreAt.fns' {x:Int→Option Fnc} (h:CoreAt F c o s H) (hf:Fra S H H') (hS : ∀ n,S n→n.t=tg c 5∨n.t=tg c 6∨n.t=tg c 7∨n.t=tg c 8) (hx:FnsAt c x H'):CoreAt F c o { s with fns:=x } H':=by
 have k : ∀ j,(j≠5∧j≠6∧j≠7∧j≠8) → ∀ n:Nm,n.t=tg c j→H'.f n=H.f n:=fun j hj n hn=>hf.at_ n (old_of (by rw [hn]; exact tg_ne0)) (fun h=>by
  have h:=hS n h
  rw [hn] at h
  simp only [tg_inj] at h
  omega)
 exact ⟨by rw [k 1 (by decide) _ rfl]; exact h.core,
  by unfold QAt; rw [k 2 (by decide) _ rfl]; exact h.q,
  h.tok.congr fun n hn=>by
   rcases hn with e | e
   ·exact k 3 (by decide) n e
   ·exact k 4 (by decide) n e,
  hx,
  by unfold HostsAt; rw [k 9 (by decide) _ rfl]; exact h.hosts,
  h.caches.congr fun n hn=>by
   rcases hn with e | e | e | e | e
   ·exact k 10 (by decide) n e
   ·exact k 11 (by decide) n e
   ·exact k 12 (by decide) n e
   ·exact k 13 (by decide) n e
   ·exact k 14 (by decide) n e,
  h.boxes.congr fun n hn=>by
   rcases hn with e | e
   ·exact k 15 (by decide) n e
   ·exact k 16 (by decide) n e,
  by unfold AheadAt; rw [k 17 (by decide) _ rfl]; exact h.ahead,
  h.timers.congr fun n hn=>by
   rcases hn with e | e | e | e
   ·exact k 18 (by decide) n e
   ·exact k 19 (by decide) n e
   ·exact k 20 (by decide) n e
   ·exact k 21 (by decide) n e,
  h.out.congr hf.k (out_keep h.out hf fun n hn h0=>by have:=hS n hn; simp only [h0,tg_ne0',or_self] at this)⟩
theorem CoreAt.hosts' {x:Nat→Mach} (h:CoreAt F c o s H) (hf:Fra S H H') (hS : ∀ n,S n→n.t=tg c 9) (hx:HostsAt c x H'):CoreAt F c o { s with hosts:=x } H':=by
 have k : ∀ j,(j≠9) → ∀ n:Nm,n.t=tg c j→H'.f n=H.f n:=fun j hj n hn=>hf.at_ n (old_of (by rw [hn]; exact tg_ne0)) (fun h=>by
  have h:=hS n h
  rw [hn] at h
  simp only [tg_inj] at h
  omega)
 exact ⟨by rw [k 1 (by decide) _ rfl]; exact h.core,
  by unfold QAt; rw [k 2 (by decide) _ rfl]; exact h.q,
  h.tok.congr fun n hn=>by
   rcases hn with e | e
   ·exact k 3 (by decide) n e
   ·exact k 4 (by decide) n e,
  h.fns.congr fun n hn=>by
   rcases hn with e | e | e | e
   ·exact k 5 (by decide) n e
   ·exact k 6 (by decide) n e
   ·exact k 7 (by decide) n e
   ·exact k 8 (by decide) n e,
  hx,
  h.caches.congr fun n hn=>by
   rcases hn with e | e | e | e | e
   ·exact k 10 (by decide) n e
   ·exact k 11 (by decide) n e
   ·exact k 12 (by decide) n e
   ·exact k 13 (by decide) n e
   ·exact k 14 (by decide) n e,
  h.boxes.congr fun n hn=>by
   rcases hn with e | e
   ·exact k 15 (by decide) n e
   ·exact k 16 (by decide) n e,
  by unfold AheadAt; rw [k 17 (by decide) _ rfl]; exact h.ahead,
  h.timers.congr fun n hn=>by
   rcases hn with e | e | e | e
   ·exact k 18 (by decide) n e
   ·exact k 19 (by decide) n e
   ·exact k 20 (by decide) n e
   ·exact k 21 (by decide) n e,
  h.out.congr hf.k (out_keep h.out hf fun n hn h0=>by have:=hS n hn; simp only [h0,tg_ne0',or_self] at this)⟩
theorem CoreAt.caches' {x:Int→Int→Option (Int × Int)} {y:Int→Int} (h:CoreAt F c o s H) (hf:Fra S H H') (hS : ∀ n,S n→n.t=tg c 10∨n.t=tg c 11∨n.t=tg c 12∨n.t=tg c 13∨n.t=tg c 14) (hx:CachesAt F c x y H'):CoreAt F c o { s with worth:=x,clock:=y } H':=by
 have k : ∀ j,(j≠10∧j≠11∧j≠12∧j≠13∧j≠14) → ∀ n:Nm,n.t=tg c j→H'.f n=H.f n:=fun j hj n hn=>hf.at_ n (old_of (by rw [hn]; exact tg_ne0)) (fun h=>by
  have h:=hS n h
  rw [hn] at h
  simp only [tg_inj] at h
  omega)
 exact ⟨by rw [k 1 (by decide) _ rfl]; exact h.core,
  by unfold QAt; rw [k 2 (by decide) _ rfl]; exact h.q,
  h.tok.congr fun n hn=>by
   rcases hn with e | e
   ·exact k 3 (by decide) n e
   ·exact k 4 (by decide) n e,
  h.fns.congr fun n hn=>by
   rcases hn with e | e | e | e
   ·exact k 5 (by decide) n e
   ·exact k 6 (by decide) n e
   ·exact k 7 (by decide) n e
   ·exact k 8 (by decide) n e,
  by unfold HostsAt; rw [k 9 (by decide) _ rfl]; exact h.hosts,
  hx,
  h.boxes.congr fun n hn=>by
   rcases hn with e | e
   ·exact k 15 (by decide) n e
   ·exact k 16 (by decide) n e,
  by unfold AheadAt; rw [k 17 (by decide) _ rfl]; exact h.ahead,
  h.timers.congr fun n hn=>by
   rcases hn with e | e | e | e
   ·exact k 18 (by decide) n e
   ·exact k 19 (by decide) n e
   ·exact k 20 (by decide) n e
   ·exact k 21 (by decide) n e,
  h.out.congr hf.k (out_keep h.out hf fun n hn h0=>by have:=hS n hn; simp only [h0,tg_ne0',or_self] at this)⟩
theorem CoreAt.boxes' {x:List Box} (h:CoreAt F c o s H) (hf:Fra S H H') (hS : ∀ n,S n→n.t=tg c 15∨n.t=tg c 16) (hx:BoxesAt c x s.next H'):CoreAt F c o { s with boxes:=x } H':=by
 have k : ∀ j,(j≠15∧j≠16) → ∀ n:Nm,n.t=tg c j→H'.f n=H.f n:=fun j hj n hn=>hf.at_ n (old_of (by rw [hn]; exact tg_ne0)) (fun h=>by
  have h:=hS n h
  rw [hn] at h
  simp only [tg_inj] at h
  omega)
 exact ⟨by rw [k 1 (by decide) _ rfl]; exact h.core,
  by unfold QAt; rw [k 2 (by decide) _ rfl]; exact h.q,
  h.tok.congr fun n hn=>by
   rcases hn with e | e
   ·exact k 3 (by decide) n e
   ·exact k 4 (by decide) n e,
  h.fns.congr fun n hn=>by
   rcases hn with e | e | e | e
   ·exact k 5 (by decide) n e
   ·exact k 6 (by decide) n e
   ·exact k 7 (by decide) n e
   ·exact k 8 (by decide) n e,
  by unfold HostsAt; rw [k 9 (by decide) _ rfl]; exact h.hosts,
  h.caches.congr fun n hn=>by
   rcases hn with e | e | e | e | e
   ·exact k 10 (by decide) n e
   ·exact k 11 (by decide) n e
   ·exact k 12 (by decide) n e
   ·exact k 13 (by decide) n e
   ·exact k 14 (by decide) n e,
  hx,
  by unfold AheadAt; rw [k 17 (by decide) _ rfl]; exact h.ahead,
  h.timers.congr fun n hn=>by
   rcases hn with e | e | e | e
   ·exact k 18 (by decide) n e
   ·exact k 19 (by decide) n e
   ·exact k 20 (by decide) n e
   ·exact k 21 (by decide) n e,
  h.out.congr hf.k (out_keep h.out hf fun n hn h0=>by have:=hS n hn; simp only [h0,tg_ne0',or_self] at this)⟩
theorem CoreAt.ahead' {x:Int→Option Int} (h:CoreAt F c o s H) (hf:Fra S H H') (hS : ∀ n,S n→n.t=tg c 17) (hx:AheadAt c x H'):CoreAt F c o { s with ahead:=x } H':=by
 have k : ∀ j,(j≠17) → ∀ n:Nm,n.t=tg c j→H'.f n=H.f n:=fun j hj n hn=>hf.at_ n (old_of (by rw [hn]; exact tg_ne0)) (fun h=>by
  have h:=hS n h
  rw [hn] at h
  simp only [tg_inj] at h
  omega)
 exact ⟨by rw [k 1 (by decide) _ rfl]; exact h.core,
  by unfold QAt; rw [k 2 (by decide) _ rfl]; exact h.q,
  h.tok.congr fun n hn=>by
   rcases hn with e | e
   ·exact k 3 (by decide) n e
   ·exact k 4 (by decide) n e,
  h.fns.congr fun n hn=>by
   rcases hn with e | e | e | e
   ·exact k 5 (by decide) n e
   ·exact k 6 (by decide) n e
   ·exact k 7 (by decide) n e
   ·exact k 8 (by decide) n e,
  by unfold HostsAt; rw [k 9 (by decide) _ rfl]; exact h.hosts,
  h.caches.congr fun n hn=>by
   rcases hn with e | e | e | e | e
   ·exact k 10 (by decide) n e
   ·exact k 11 (by decide) n e
   ·exact k 12 (by decide) n e
   ·exact k 13 (by decide) n e
   ·exact k 14 (by decide) n e,
  h.boxes.congr fun n hn=>by
   rcases hn with e | e
   ·exact k 15 (by decide) n e
   ·exact k 16 (by decide) n e,
  hx,
  h.timers.congr fun n hn=>by
   rcases hn with e | e | e | e
   ·exact k 18 (by decide) n e
   ·exact k 19 (by decide) n e
   ·exact k 20 (by decide) n e
   ·exact k 21 (by decide) n e,
  h.out.congr hf.k (out_keep h.out hf fun n hn h0=>by have:=hS n hn; simp only [h0,tg_ne0',or_self] at this)⟩
theorem CoreAt.timers' {x y:Int→Option Int} (h:CoreAt F c o s H) (hf:Fra S H H') (hS : ∀ n,S n→n.t=tg c 18∨n.t=tg c 19∨n.t=tg c 20∨n.t=tg c 21) (hx:TimersAt F c x y H'):CoreAt F c o { s with ends:=x,boots:=y } H':=by
 have k : ∀ j,(j≠18∧j≠19∧j≠20∧j≠21) → ∀ n:Nm,n.t=tg c j→H'.f n=H.f n:=fun j hj n hn=>hf.at_ n (old_of (by rw [hn]; exact tg_ne0)) (fun h=>by
  have h:=hS n h
  rw [hn] at h
  simp only [tg_inj] at h
  omega)
 exact ⟨by rw [k 1 (by decide) _ rfl]; exact h.core,
  by unfold QAt; rw [k 2 (by decide) _ rfl]; exact h.q,
  h.tok.congr fun n hn=>by
   rcases hn with e | e
   ·exact k 3 (by decide) n e
   ·exact k 4 (by decide) n e,
  h.fns.congr fun n hn=>by
   rcases hn with e | e | e | e
   ·exact k 5 (by decide) n e
   ·exact k 6 (by decide) n e
   ·exact k 7 (by decide) n e
   ·exact k 8 (by decide) n e,
  by unfold HostsAt; rw [k 9 (by decide) _ rfl]; exact h.hosts,
  h.caches.congr fun n hn=>by
   rcases hn with e | e | e | e | e
   ·exact k 10 (by decide) n e
   ·exact k 11 (by decide) n e
   ·exact k 12 (by decide) n e
   ·exact k 13 (by decide) n e
   ·exact k 14 (by decide) n e,
  h.boxes.congr fun n hn=>by
   rcases hn with e | e
   ·exact k 15 (by decide) n e
   ·exact k 16 (by decide) n e,
  by unfold AheadAt; rw [k 17 (by decide) _ rfl]; exact h.ahead,
  hx,
  h.out.congr hf.k (out_keep h.out hf fun n hn h0=>by have:=hS n hn; simp only [h0,tg_ne0',or_self] at this)⟩
end
end Go.Ab

namespace Go.Ab
open Go Gh
variable {P : Program} {F : Nums}
structure CachesO (F:Nums) (c:Nat) (worth:Int→Int→Option (Int × Int)) (clock:Int→Int) (m:List Int→Option AV) (gen:Int→Option Int) (gn vn:Int→Int) (H:AH):Prop where
 mp:H.f (nCaches c)=some (.mp 1 m)
 so : ∀ h g,gen h=some g→g<gn h∧m [h]=some (.ptr (nCache c h g) 0)∧H.f (nCache c h g)=some (.row 2 (cs [.ptr (nCHeap c h g) 0,u64 (clock h)]))∧HeapAt (cacP c h g (.fn F.warm_less [])) (vn h) (cacheMap (worth h)) H
 no : ∀ h,gen h=none→(m [h]=none∨m [h]=some .nilp)∧(∀ id,worth h id=none)∧clock h=0
 gf : ∀ h j,gn h≤j→H.f (nCache c h j)=none∧H.f (nCHeap c h j)=none∧H.f (nCAt c h j)=none
 vf : ∀ h j,vn h≤j→H.f (nCItems c h j)=none
theorem CachesAt.open {c:Nat} {worth:Int→Int→Option (Int × Int)} {clock:Int→Int} {H:AH} (h:CachesAt F c worth clock H) : ∃ m gen gn vn,CachesO F c worth clock m gen gn vn H:=by
 obtain ⟨m,gen,gn,vn,h1,h2,h3,h4⟩:=h.ex
 refine ⟨m,gen,gn,vn,h1,fun k g hk=>?_,fun k hk=>?_,h3,h4⟩
 ·have:=h2 k; rw [hk] at this; exact this
 ·have:=h2 k; rw [hk] at this; exact this
theorem CachesO.shut {c:Nat} {worth:Int→Int→Option (Int × Int)} {clock:Int→Int} {m:List Int→Option AV} {gen:Int→Option Int} {gn vn:Int→Int} {H:AH} (h:CachesO F c worth clock m gen gn vn H):CachesAt F c worth clock H:=by
 refine ⟨m,gen,gn,vn,h.mp,fun k=>?_,h.gf,h.vf⟩
 cases hk:gen k with
 | none=>exact h.no k hk
 | some g=>exact h.so k g hk
abbrev cacO (F:Nums) (c:Nat) (h g:Int):Nm→Prop:=fun n=>warO F c h g n∨n=nCache c h g
theorem cacO_t {c:Nat} {h g:Int} {n:Nm} (hn:cacO F c h g n):n.t=tg c 10∨n.t=tg c 11∨n.t=tg c 12∨n.t=tg c 13∨n.t=tg c 14:=by
 rcases hn with hn | rfl
 ·rcases warO_t hn with h | h | h
  ·exact .inr (.inr (.inl h))
  ·exact .inr (.inr (.inr (.inl h)))
  ·exact .inr (.inr (.inr (.inr h)))
 ·exact .inr (.inl rfl)
theorem cacO_i {c:Nat} {h g:Int} {n:Nm} (hn:cacO F c h g n):n.i=h:=by
 rcases hn with (rfl | rfl | ⟨j,rfl⟩) | rfl <;> rfl
theorem cacO_j {c:Nat} {h g:Int} {n:Nm} (hn:cacO F c h g n):n.t=tg c 13∨n.j=g:=by
 rcases hn with (rfl | rfl | ⟨j,rfl⟩) | rfl
 ·exact .inr rfl
 ·exact .inr rfl
 ·exact .inl rfl
 ·exact .inr rfl
section
variable {c : Nat} {worth worth' : Int → Int → Option (Int × Int)} {clock clock' : Int → Int} {m : List Int → Option AV} {gen : Int → Option Int} {gn vn : Int → Int} {H H' : AH}
theorem CachesO.mk' {s:List Nm} (hO:CachesO F c worth clock m gen gn vn H):CachesO F c worth clock m gen gn vn ⟨H.f,H.k,s⟩ :=
 ⟨hO.mp,fun h g hg=>⟨(hO.so h g hg).1,(hO.so h g hg).2.1,(hO.so h g hg).2.2.1,(hO.so h g hg).2.2.2.congr fun _ _=>rfl⟩,hO.no,hO.gf,hO.vf⟩
theorem CachesO.warm {h g:Int} (hO:CachesO F c worth clock m gen gn vn H) (hg:gen h=some g):WarmAt F c h g (cacheMap (worth h)) (clock h) H :=
 ⟨(hO.so h g hg).2.2.1,vn h,(hO.so h g hg).2.2.2⟩
theorem CachesO.turn {h g:Int} (hO:CachesO F c worth clock m gen gn vn H) (hg:gen h=some g) (hf:Fra (cacO F c h g) H H') (hw:WarmAt F c h g (cacheMap (worth' h)) (clock' h) H')
  (ho : ∀ k,k≠h→worth' k=worth k∧clock' k=clock k):CachesAt F c worth' clock' H':=by
 obtain ⟨r,v',hh⟩:=hw
 have oth : ∀ n:Nm,(n.t=tg c 10∨n.t=tg c 11∨n.t=tg c 12∨n.t=tg c 13∨n.t=tg c 14) → ¬ cacO F c h g n→H'.f n=H.f n:=fun n ht hn=>hf.at_ n (old_of (by rcases ht with h | h | h | h | h <;> rw [h] <;> exact tg_ne0)) hn
 have no10 : ¬ cacO F c h g (nCaches c):=by
  rintro ((e | e | ⟨j,e⟩) | e) <;> (have:=congrArg Nm.t e; simp [tg_inj] at this)
 refine (CachesO.mk (F:=F) (m:=m) (gen:=gen) (gn:=gn) (vn:=fun k=>if k=h then v' else vn k) ?_ ?_ ?_ ?_ ?_).shut
 ·rw [oth _ (.inl rfl) no10]; exact hO.mp
 ·intro k g' hk
  by_cases e:k=h
  ·subst e
   rw [hg] at hk
   cases hk
   have h1:=hO.so k g hg
   refine ⟨h1.1,h1.2.1,r,?_⟩
   simp only [if_true]; exact hh
  ·have h1:=hO.so k g' hk
   rw [(ho k e).1,(ho k e).2]
   simp only [e,if_false]
   refine ⟨h1.1,h1.2.1,?_,?_⟩
   ·rw [oth _ (.inr (.inl rfl)) (fun h=>e (cacO_i h))]; exact h1.2.2.1
   ·refine h1.2.2.2.congr fun n hn=>?_
    have ht:n.t=tg c 12∨n.t=tg c 13∨n.t=tg c 14:=warO_t (F:=F) (h:=k) (g:=g') hn
    have hi:n.i=k:=cacO_i (F:=F) (c:=c) (g:=g') (.inl hn)
    exact oth n (by rcases ht with h | h | h <;> simp [h]) (fun h=>e (hi ▸ cacO_i h))
 ·intro k hk
  have e:k≠h:=fun e=>by rw [e,hg] at hk; cases hk
  have h1:=hO.no k hk
  refine ⟨h1.1,fun id=>by rw [(ho k e).1]; exact h1.2.1 id,by rw [(ho k e).2]; exact h1.2.2⟩
 ·intro k j hj
  have h1:=hO.gf k j hj
  have hn : ∀ n:Nm,n.i=k→n.j=j→n.t≠tg c 13 → ¬ cacO F c h g n:=fun n hi hj' h13 hc=>by
   have e:=cacO_i hc
   rw [hi] at e; subst e
   rcases cacO_j hc with h | h
   ·exact h13 h
   ·have:=(hO.so _ g hg).1
    omega
  refine ⟨?_,?_,?_⟩
  ·rw [oth _ (.inr (.inl rfl)) (hn _ rfl rfl (by simp [tg_inj]))]; exact h1.1
  ·rw [oth _ (.inr (.inr (.inl rfl))) (hn _ rfl rfl (by simp [tg_inj]))]; exact h1.2.1
  ·rw [oth _ (.inr (.inr (.inr (.inr rfl)))) (hn _ rfl rfl (by simp [tg_inj]))]; exact h1.2.2
 ·intro k j hj
  by_cases e:k=h
  ·subst e
   simp only [if_true] at hj
   obtain ⟨n,g',hr,_⟩:=hh
   exact hr.fresh j hj
  ·simp only [e,if_false] at hj
   rw [oth _ (.inr (.inr (.inr (.inl rfl)))) (fun h=>e (cacO_i h))]
   exact hO.vf k j hj
end
abbrev cacT (c:Nat) (n:Nm):Prop:=n.t=tg c 10∨n.t=tg c 11∨n.t=tg c 12∨n.t=tg c 13∨n.t=tg c 14
theorem core_cache_c (G:Good P F) {c:Nat} {s:CS} {o:AV} {H:AH} (hc:H.f (nC c)=some (.row 16 (cs (coreC c s o)))) {worth:Int→Int→Option (Int × Int)} {clock:Int→Int} (hca:CachesAt F c worth clock H) {h:Int} :
  ACalls P F.core_cache [.ptr (nC c) 0,i64 h] H (fun v H'=>(∃ g m gen gn vn,v=.ptr (nCache c h g) 0∧gen h=some g∧CachesO F c worth clock m gen gn vn H')∧Fra (cacT c) H H'):=by
 refine fn_rule G.mixed G.core_cache rfl [] (fun hcl=>?_)
 obtain ⟨m,gen,gn,vn,hO⟩:=hca.open
 have hm:=hO.mp
 cases hg:gen h with
 | some g =>
  have h1:=hO.so h g hg
  simp only [go_sem,hc,hm,h1.2.1,Option.getD_some]
  exact ⟨⟨g,m,gen,gn,vn,rfl,hg,hO.mk'⟩,Fra.mk1⟩
 | none =>
  have h1:=hO.no h hg
  have hgf:=hO.gf h (gn h) (Int.le_refl _)
  have hx:=h1.1
  generalize hmx:m [h]=x at hx
  simp only [go_sem,hc,hm,hmx]
  rcases hx with rfl | rfl
  all_goals
   simp only [go_sem,hc,hm]
   refine CA_s [] (warm_New_c G (c:=c) (h:=h) (g:=gn h) (v:=vn h) hgf.1 hgf.2.1 hgf.2.2 (hO.vf h)) ?_
   rintro _ H1 ⟨rfl,hw,hf1⟩ _ _
   have hf1:Fra (cacO F c h (gn h)) H H1:=hf1.of_mk
   have no1 : ¬ cacO F c h (gn h) (nC c):=fun hn=>by rcases cacO_t hn with h | h | h | h | h <;> simp [tg_inj] at h
   have no10 : ¬ cacO F c h (gn h) (nCaches c):=by
    rintro ((e | e | ⟨j,e⟩) | e) <;> (have:=congrArg Nm.t e; simp [tg_inj] at this)
   have hc1:H1.f (nC c)=_:=(hf1.at_ _ (old_of tg_ne0) no1).trans hc
   have hm1:H1.f (nCaches c)=_:=(hf1.at_ _ (old_of tg_ne0) no10).trans hm
   have n1:nC c≠nCaches c:=fun e=>by have:=congrArg Nm.t e; simp [tg_inj] at this
   have ms:mset m [h] (some (AV.ptr (nCache c h (gn h)) 0)) [h]=some (AV.ptr (nCache c h (gn h)) 0):=by unfold mset; rw [if_pos rfl]
   simp only [go_sem,hc1,hm1,n1,ms,Option.getD_some,holdsOk_cons,gd_none,pureV,forall_const,fr_lkp]
   obtain ⟨r,v',hh⟩:=hw
   have cm:cacheMap (worth h)=fun _=>none:=by
    funext l
    unfold cacheMap
    split
    ·rw [h1.2.1]; rfl
    ·rfl
   have oth : ∀ n:Nm,n.t≠0→n≠nCaches c → ¬ cacO F c h (gn h) n→((⟨H1.f,H1.k,[]⟩:AH).set (nCaches c) (.mp 1 (mset m [h] (some (AV.ptr (nCache c h (gn h)) 0))))).f n=H.f n:=fun n h0 h10 hn=>by
    simp only [go_sem,h10]
    exact hf1.at_ n (old_of h0) hn
   have own : ∀ n:Nm,cacO F c h (gn h) n→((⟨H1.f,H1.k,[]⟩:AH).set (nCaches c) (.mp 1 (mset m [h] (some (AV.ptr (nCache c h (gn h)) 0))))).f n=H1.f n:=fun n hn=>by
    have:n≠nCaches c:=fun e=>no10 (e ▸ hn)
    simp only [go_sem,this]
   refine ⟨⟨gn h,mset m [h] (some (AV.ptr (nCache c h (gn h)) 0)),fun k=>if k=h then some (gn h) else gen k,fun k=>if k=h then gn h+1 else gn k,fun k=>if k=h then v' else vn k,rfl,by simp,?_,?_,?_,?_,?_⟩,?_⟩
   ·simp only [go_sem]
   ·intro k g hk
    by_cases ek:k=h
    ·subst ek
     simp only [if_true,Option.some.injEq] at hk
     subst hk
     refine ⟨by simp only [if_true]; omega,ms,?_,?_⟩
     ·rw [own _ (.inr rfl),h1.2.2]; exact r
     ·simp only [if_true]; rw [cm]
      exact hh.congr fun n hn=>own n (.inl hn)
    ·simp only [ek,if_false] at hk ⊢
     have h2:=hO.so k g hk
     have hmk:mset m [h] (some (AV.ptr (nCache c h (gn h)) 0)) [k]=m [k]:=by unfold mset; rw [if_neg (by simp [ek])]
     refine ⟨h2.1,by rw [hmk]; exact h2.2.1,?_,?_⟩
     ·rw [oth _ tg_ne0 (fun e=>by have:=congrArg Nm.t e; simp [tg_inj] at this) (fun hn=>ek (cacO_i hn))]; exact h2.2.2.1
     ·refine h2.2.2.2.congr fun n hn=>?_
      have ht:n.t=tg c 12∨n.t=tg c 13∨n.t=tg c 14:=warO_t (F:=F) (h:=k) (g:=g) hn
      have hi:n.i=k:=cacO_i (F:=F) (c:=c) (g:=g) (.inl hn)
      exact oth n (by rcases ht with h | h | h <;> rw [h] <;> exact tg_ne0) (fun e=>by rw [e] at ht; simp [tg_inj] at ht) (fun hn=>ek (hi ▸ cacO_i hn))
   ·intro k hk
    by_cases ek:k=h
    ·simp [ek] at hk
    ·simp only [ek,if_false] at hk
     have h2:=hO.no k hk
     have hmk:mset m [h] (some (AV.ptr (nCache c h (gn h)) 0)) [k]=m [k]:=by unfold mset; rw [if_neg (by simp [ek])]
     exact ⟨by rw [hmk]; exact h2.1,h2.2⟩
   ·intro k j hj
    have h2:gn k≤j∧(k=h→gn h<j):=by
     by_cases ek:k=h
     ·subst ek; simp only [if_true] at hj; omega
     ·simp only [ek,if_false] at hj; exact ⟨hj,fun e=>absurd e ek⟩
    have h3:=hO.gf k j h2.1
    have hn : ∀ n:Nm,n.i=k→n.j=j→n.t≠tg c 13 → ¬ cacO F c h (gn h) n:=fun n hi hj' h13 hc=>by
     have e:=cacO_i hc
     rw [hi] at e
     rcases cacO_j hc with h | h
     ·exact h13 h
     ·have:=h2.2 e; omega
    refine ⟨?_,?_,?_⟩
    ·rw [oth _ tg_ne0 (fun e=>by have:=congrArg Nm.t e; simp [tg_inj] at this) (hn _ rfl rfl (by simp [tg_inj]))]; exact h3.1
    ·rw [oth _ tg_ne0 (fun e=>by have:=congrArg Nm.t e; simp [tg_inj] at this) (hn _ rfl rfl (by simp [tg_inj]))]; exact h3.2.1
    ·rw [oth _ tg_ne0 (fun e=>by have:=congrArg Nm.t e; simp [tg_inj] at this) (hn _ rfl rfl (by simp [tg_inj]))]; exact h3.2.2
   ·intro k j hj
    by_cases ek:k=h
    ·subst ek
     simp only [if_true] at hj
     obtain ⟨n,g',hr,_⟩:=hh
     rw [own _ (.inl (.inr (.inr ⟨j,rfl⟩)))]
     exact hr.fresh j hj
    ·simp only [ek,if_false] at hj
     rw [oth _ tg_ne0 (fun e=>by have:=congrArg Nm.t e; simp [tg_inj] at this) (fun hn=>ek (cacO_i hn))]
     exact hO.vf k j hj
   ·exact (hf1.mono fun n hn=>cacO_t hn).mk'.set (.inl (.inl rfl))
end Go.Ab

namespace Go.Ab
open Go Gh
variable {P : Program} {F : Nums}
theorem cacheMap_ups {worth:Int→Int→Option (Int × Int)} {h id:Int} {x:Option (Int × Int)}:cacheMap (ups2 worth h id x h)=tset (cacheMap (worth h)) [id] (x.map fun w=>(w.1,w.2,id)):=by
 funext l
 unfold tset cacheMap ups2
 cases l with
 | nil=>simp
 | cons a r =>
  cases r with
  | nil =>
   by_cases e:a=id
   ·subst e; simp
   ·simp [e]
  | cons b r'=>simp
theorem ups2_ne {worth:Int→Int→Option (Int × Int)} {h id k:Int} {x:Option (Int × Int)} (hk:k≠h):ups2 worth h id x k=worth k:=by
 funext j; unfold ups2; simp [hk]
theorem timesMap_ends {ends boots:Int→Option Int} {id:Int} {x:Option Int}:timesMap (ups ends id x) boots=tset (timesMap ends boots) [0,id] (x.map fun t=>(t,0,id)):=by
 funext l
 unfold tset timesMap ups
 cases l with
 | nil=>simp
 | cons a r =>
  cases r with
  | nil=>simp
  | cons b r' =>
   cases r' with
   | nil =>
    by_cases ea:a=0
    ·subst ea
     by_cases e:b=id
     ·subst e; simp
     ·simp [e]
    ·simp [ea]
   | cons=>simp
theorem timesMap_boots {ends boots:Int→Option Int} {id:Int} {x:Option Int}:timesMap ends (ups boots id x)=tset (timesMap ends boots) [1,id] (x.map fun t=>(t,1,id)):=by
 funext l
 unfold tset timesMap ups
 cases l with
 | nil=>simp
 | cons a r =>
  cases r with
  | nil=>simp
  | cons b r' =>
   cases r' with
   | nil =>
    by_cases ea:a=0
    ·subst ea; simp
    ·by_cases e1:a=1
     ·subst e1
      by_cases e:b=id
      ·subst e; simp
      ·simp [e]
     ·simp [ea,e1]
   | cons=>simp
theorem TimersAt.tim {c:Nat} {ends boots:Int→Option Int} {H:AH} (h:TimersAt F c ends boots H):TimAt F c (timesMap ends boots) H:=⟨h.row,h.heap⟩
theorem TimAt.ers {c:Nat} {ends boots:Int→Option Int} {H:AH} (h:TimAt F c (timesMap ends boots) H):TimersAt F c ends boots H:=⟨h.row,h.heap⟩
def Few (s:CS):Prop:=s.next≤2147483000
theorem worth_WV {s:CS} {k:Int→Int} (hw:WF { s with clock:=k }) (hf:Few s) (h:Int) : ∀ k x,cacheMap (s.worth h) k=some x→WV x:=by
 intro k x hx
 unfold cacheMap at hx
 split at hx
 ·rename_i i
  cases hi:s.worth h i with
  | none=>rw [hi] at hx; cases hx
  | some w =>
   rw [hi] at hx
   simp only [Option.map_some,Option.some.injEq] at hx
   subst hx
   have h1:0≤w.1∧w.1≤w.2*(1000000*(deads s.boxes s.next+1))∧1≤w.2∧w.2≤4096:=(hw.w.1 h i w hi).1
   have h2:deads s.boxes s.next≤2147483648:=by unfold deads; unfold Few at hf; omega
   have h3:0≤deads s.boxes s.next:=hw.w.2.2
   have h4:w.2*(1000000*(deads s.boxes s.next+1))≤4096*(1000000*(2147483648+1)):=Int.mul_le_mul (by omega) (by omega) (by omega) (by omega)
   refine ⟨⟨h1.1,?_⟩,⟨?_,?_⟩,?_⟩
   ·show w.1<18446744073709551616; omega
   ·show 0≤w.2; omega
   ·show w.2<18446744073709551616; omega
   ·show 0<w.2; omega
 ·cases hx
abbrev ctT (c:Nat) (n:Nm):Prop:=n.t=tg c 10∨n.t=tg c 11∨n.t=tg c 12∨n.t=tg c 13∨n.t=tg c 14∨n.t=tg c 18∨n.t=tg c 19∨n.t=tg c 20∨n.t=tg c 21
theorem CoreAt.mk' {c:Nat} {o:AV} {s:CS} {H:AH} {l:List Nm} (h:CoreAt F c o s H):CoreAt F c o s ⟨H.f,H.k,l⟩ :=
 ⟨h.core,h.q,h.tok.congr fun _ _=>rfl,h.fns.congr fun _ _=>rfl,h.hosts,h.caches.congr fun _ _=>rfl,h.boxes.congr fun _ _=>rfl,h.ahead,h.timers.congr fun _ _=>rfl,h.out.congr (Int.le_refl _) fun _ _=>rfl⟩
theorem cac_ct {c:Nat} (n:Nm) (h:cacT c n):ctT c n:=by
 rcases h with h | h | h | h | h
 ·exact .inl h
 ·exact .inr (.inl h)
 ·exact .inr (.inr (.inl h))
 ·exact .inr (.inr (.inr (.inl h)))
 ·exact .inr (.inr (.inr (.inr (.inl h))))
theorem war_ct {c:Nat} {h g:Int} (n:Nm) (hn:warO F c h g n):ctT c n:=by
 rcases warO_t hn with h | h | h
 ·exact .inr (.inr (.inl h))
 ·exact .inr (.inr (.inr (.inl h)))
 ·exact .inr (.inr (.inr (.inr (.inl h))))
theorem tim_ct {c:Nat} (n:Nm) (hn:timO F c n):ctT c n:=by
 rcases timO_t hn with h | h | h
 ·exact .inr (.inr (.inr (.inr (.inr (.inr (.inl h))))))
 ·exact .inr (.inr (.inr (.inr (.inr (.inr (.inr (.inl h)))))))
 ·exact .inr (.inr (.inr (.inr (.inr (.inr (.inr (.inr h)))))))
theorem core_take_c (G:Good P F) {c:Nat} {s:CS} {o:AV} {H:AH} {k:Int→Int} (hw:WF { s with clock:=k }) (hfew:Few s) (hc:CoreAt F c o s H) {b:Box} (hb:b∈s.boxes) :
  ACalls P F.core_take [.ptr (nC c) 0,.ptr (nBox c b.id) 0] H (fun _ H'=>CoreAt F c o (s.take b) H'∧Fra (ctT c) H H'):=by
 refine fn_rule G.mixed G.core_take rfl [] (fun hcl=>?_)
 have hbr:=hc.boxes.row b hb
 have hcr:=hc.core
 simp only [go_sem,hbr]
 refine CA_s [] (core_cache_c G (s:=s) (o:=o) (H:=⟨H.f,H.k,[]⟩) hcr (hc.caches.congr fun _ _=>rfl) (h:=b.host)) ?_
 rintro _ H1 ⟨⟨g,m,gen,gn,vn,rfl,hg,hO⟩,hf1⟩ _ _
 have hf1:Fra (cacT c) H H1:=hf1.of_mk
 have hc1:CoreAt F c o s H1:=hc.caches' hf1 (fun n h=>h) hO.shut
 have hbr1:=hc1.boxes.row b hb
 simp only [go_sem,hbr1,holdsOk_cons,gd_none,pureV,forall_const,fr_lkp]
 refine CA_s [] (warm_Drop_c G (c:=c) (h:=b.host) (g:=g) (H:=⟨H1.f,H1.k,[]⟩) (worth_WV hw hfew b.host) (hO.mk'.warm hg)) ?_
 rintro _ H2 ⟨_,hw2,hf2⟩ _ _
 have hf2:Fra (warO F c b.host g) H1 H2:=hf2.of_mk
 have hca2:CachesAt F c (ups2 s.worth b.host b.id none) s.clock H2:=hO.turn hg (hf2.mono fun _ h=>.inl h) (by rw [cacheMap_ups]; exact hw2) (fun k hk=>⟨ups2_ne hk,rfl⟩)
 have hc2:=hc1.caches' hf2 (fun n h=>cacO_t (.inl h)) hca2
 have hcr2:=hc2.core
 have hbr2:=hc2.boxes.row b hb
 simp only [go_sem,hcr2,hbr2]
 have ht2:TimAt F c (timesMap s.ends s.boots) ⟨H2.f,H2.k,[]⟩:=(TimersAt.congr (H':=⟨H2.f,H2.k,[]⟩) hc2.timers (fun _ _=>rfl)).tim
 refine CA_s [] (timer_Drop_c G (c:=c) (H:=⟨H2.f,H2.k,[]⟩) ht2) ?_
 rintro _ H3 ⟨_,ht3,hf3⟩ _ _
 have hf3:Fra (timO F c) H2 H3:=hf3.of_mk
 have hc3:=hc2.timers' hf3 (fun n h=>by rcases timO_t h with h | h | h; exact .inr (.inl h); exact .inr (.inr (.inl h)); exact .inr (.inr (.inr h))) (x:=ups s.ends b.id none) (y:=s.boots) (by
  refine TimAt.ers ?_
  rw [timesMap_ends]; exact ht3)
 simp only [go_sem]
 have hk3:CoreAt F c o (s.take b) ⟨H3.f,H3.k,[]⟩:=hc3.mk'
 refine ⟨hk3,?_⟩
 exact Fra.mk' (Fra.trans (hf1.mono cac_ct) (Fra.trans (hf2.mono war_ct) (hf3.mono tim_ct)))
end Go.Ab

namespace Go.Ab
open Go Gh
variable {P : Program} {F : Nums}
theorem box_Runs_c (G:Good P F) {n:Nm} {b:Box} {H:AH} (hb:H.f n=some (.row 8 (cs (boxC b)))) :
  ACalls P F.box_Runs [.ptr n 0] H (fun v H'=>v=.bool b.runs∧Same H H'):=by
 refine fn_rule G.mixed G.box_Runs rfl [] (fun hcl=>?_)
 repeat' (first | refine EI_i (fun _=>?_) (fun _=>?_) | simp only [go_sem,hb])
 all_goals refine ⟨?_,Same.mk1⟩
 all_goals simp_all [Box.runs]
theorem box_Idle_c (G:Good P F) {n:Nm} {b:Box} {H:AH} (hb:H.f n=some (.row 8 (cs (boxC b)))) :
  ACalls P F.box_Idle [.ptr n 0] H (fun v H'=>v=.bool b.idle∧Same H H'):=by
 refine fn_rule G.mixed G.box_Idle rfl [] (fun hcl=>?_)
 repeat' (first | refine EI_i (fun _=>?_) (fun _=>?_) | simp only [go_sem,hb])
 all_goals refine ⟨?_,Same.mk1⟩
 all_goals simp_all [Box.idle]
def Box.killed (b:Box) (now:Int):Box:=if b.st=3 then b else { b with st:=3,bound:=false,pinned:=false,since:=now }
theorem box_Kill_c (G:Good P F) {n:Nm} {b:Box} {now:Int} {H:AH} (hb:H.f n=some (.row 8 (cs (boxC b)))) :
  ACalls P F.box_Kill [.ptr n 0,i64 now] H (fun _ H'=>H'.f n=some (.row 8 (cs (boxC (Box.killed b now))))∧Fra (At n) H H'):=by
 refine fn_rule G.mixed G.box_Kill rfl [] (fun hcl=>?_)
 repeat' (first | refine EI_i (fun _=>?_) (fun _=>?_) | simp only [go_sem,hb])
 ·exact ⟨by simp_all [Box.killed],Fra.mk1⟩
 ·exact ⟨by simp_all [Box.killed],Fra.s1 Fra.mk1⟩
def Box.called (b:Box) (now:Int):Box:=if b.st=1 then { b with st:=2,since:=now } else if b.st=0 ∧ !b.bound then { b with bound:=true } else b
theorem box_Call_c (G:Good P F) {n:Nm} {b:Box} {now:Int} {H:AH} (hb:H.f n=some (.row 8 (cs (boxC b)))) :
  ACalls P F.box_Call [.ptr n 0,i64 now] H (fun _ H'=>H'.f n=some (.row 8 (cs (boxC (Box.called b now))))∧Fra (At n) H H'):=by
 refine fn_rule G.mixed G.box_Call rfl [] (fun hcl=>?_)
 repeat' (first | refine EI_i (fun _=>?_) (fun _=>?_) | simp only [go_sem,hb])
 all_goals first
  | exact ⟨by simp_all [Box.called],Fra.mk1⟩
  | exact ⟨by simp_all [Box.called],Fra.s1 Fra.mk1⟩
def Box.up (b:Box) (now:Int):Box:=if b.bound then { b with st:=2,bound:=false,since:=now } else { b with st:=1,since:=now }
theorem box_Booted_c (G:Good P F) {n:Nm} {b:Box} {now:Int} {H:AH} (hb:H.f n=some (.row 8 (cs (boxC b)))) :
  ACalls P F.box_Booted [.ptr n 0,i64 now] H (fun v H'=>v=.bool (b.st==0)∧(if b.st=0 then H'.f n=some (.row 8 (cs (boxC (Box.up b now))))∧Fra (At n) H H' else Same H H')):=by
 refine fn_rule G.mixed G.box_Booted rfl [] (fun hcl=>?_)
 repeat' (first | refine EI_i (fun _=>?_) (fun _=>?_) | simp only [go_sem,hb])
 ·rename_i h
  have h:b.st≠0:=by simpa using h
  exact ⟨by simp [h],by rw [if_neg h]; exact Same.mk1⟩
 all_goals
  rename_i h h2
  have h:b.st=0:=by simpa using h
  refine ⟨by simp [h],?_⟩
  rw [if_pos h]
  exact ⟨by simp_all [Box.up],Fra.s1 Fra.mk1⟩
theorem box_Done_c (G:Good P F) {n:Nm} {b:Box} {now:Int} {H:AH} (hb:H.f n=some (.row 8 (cs (boxC b)))) :
  ACalls P F.box_Done [.ptr n 0,i64 now] H (fun v H'=>v=.bool (b.st==2)∧(if b.st=2 then H'.f n=some (.row 8 (cs (boxC { b with st:=1,since:=now })))∧Fra (At n) H H' else Same H H')):=by
 refine fn_rule G.mixed G.box_Done rfl [] (fun hcl=>?_)
 repeat' (first | refine EI_i (fun _=>?_) (fun _=>?_) | simp only [go_sem,hb])
 ·rename_i h
  have h:b.st≠2:=by simpa using h
  exact ⟨by simp [h],by rw [if_neg h]; exact Same.mk1⟩
 ·rename_i h
  have h:b.st=2:=by simpa using h
  refine ⟨by simp [h],?_⟩
  rw [if_pos h]
  exact Fra.s1 Fra.mk1
theorem box_New_c (G:Good P F) {n:Nm} {id f h mem now:Int} {H:AH} (ht:n.t≠0) (hn:H.f n=none) :
  ACalls P F.box_New [i64 id,i64 f,i64 h,i64 mem,i64 now] H (fun v H'=>v=.ptr n 0∧H'.f n=some (.row 8 (cs (boxC { id:=id,fn:=f,host:=h,mem:=mem,since:=now })))∧Fra (At n) H H'):=by
 refine fn_rule G.mixed G.box_New rfl [n] (fun hcl=>?_)
 repeat' (first | refine EI_i (fun _=>?_) (fun _=>?_) | simp only [go_sem,hn])
 exact ⟨ht,(Fra.s1 Fra.mk1).bmp⟩
theorem bucket_bound_c (G:Good P F) {k:Int} {H:AH} :
  ACalls P F.bucket_bound [i64 k] H (fun v H'=>v=i64 (CS.bnd k)∧Same H H'):=by
 refine fn_rule G.mixed G.bucket_bound rfl [] (fun hcl=>?_)
 repeat' (first | refine EI_i (fun _=>?_) (fun _=>?_) | simp only [go_sem])
 exact ⟨by unfold CS.bnd; rfl,Same.mk1⟩
theorem bucket_New_c (G:Good P F) {n:Nm} {size refill:Int} {H:AH} (ht:n.t≠0) (hn:H.f n=none) :
  ACalls P F.bucket_New [i64 size,i64 refill] H (fun v H'=>v=.ptr n 0∧H'.f n=some (.row 3 (cs (bktC ⟨CS.bnd size,CS.bnd refill,CS.bnd size⟩)))∧Fra (At n) H H'):=by
 refine fn_rule G.mixed G.bucket_New rfl [] (fun hcl=>?_)
 simp only [go_sem]
 refine CA_s [] (bucket_bound_c G) ?_
 rintro _ H1 ⟨rfl,h1⟩ _ _
 simp only [go_sem]
 refine CA_s [] (bucket_bound_c G) ?_
 rintro _ H2 ⟨rfl,h2⟩ _ _
 simp only [go_sem]
 refine CA_s [n] (bucket_bound_c G) ?_
 rintro _ H3 ⟨rfl,h3⟩ _ _
 have hs:Same H H3:=h1.of_mk.trans (h2.of_mk.trans h3.of_mk)
 have e:H3.f n=none:=by rw [hs.at_ n (old_of ht),hn]
 simp only [go_sem,e]
 exact ⟨ht,(Fra.s1 hs.fra.mk').bmp⟩
theorem bucket_Set_c (G:Good P F) {n:Nm} {b:Bkt} {size refill:Int} {H:AH} (ht:n.t≠0) (hn:H.f n=some (.row 3 (cs (bktC b)))) :
  ACalls P F.bucket_Set [.ptr n 0,i64 size,i64 refill] H (fun _ H'=>H'.f n=some (.row 3 (cs (bktC ⟨CS.bnd size,CS.bnd refill,min b.tokens (CS.bnd size)⟩)))∧Fra (At n) H H'):=by
 refine fn_rule G.mixed G.bucket_Set rfl [] (fun hcl=>?_)
 simp only [go_sem]
 refine CA_s [] (bucket_bound_c G) ?_
 rintro _ H1 ⟨rfl,h1⟩ _ _
 simp only [go_sem]
 refine CA_s [] (bucket_bound_c G) ?_
 rintro _ H2 ⟨rfl,h2⟩ _ _
 have hs:Same H H2:=h1.of_mk.trans h2.of_mk
 have e:=hs.some (old_of ht) hn
 simp only [go_sem,e]
 exact Fra.s1 hs.fra.mk'
theorem bucket_Tokens_c (G:Good P F) {n:Nm} {b:Bkt} {H:AH} (hn:H.f n=some (.row 3 (cs (bktC b)))) :
  ACalls P F.bucket_Tokens [.ptr n 0] H (fun v H'=>v=i64 b.tokens∧Same H H'):=by
 refine fn_rule G.mixed G.bucket_Tokens rfl [] (fun hcl=>?_)
 simp only [go_sem,hn]
 exact Same.mk1
theorem bucket_Take_c (G:Good P F) {n:Nm} {b:Bkt} {H:AH} (hn:H.f n=some (.row 3 (cs (bktC b)))) (h0:0≤b.tokens) (h1:b.tokens≤1000) :
  ACalls P F.bucket_Take [.ptr n 0] H (fun _ H'=>H'.f n=some (.row 3 (cs (bktC { b with tokens:=if b.tokens=0 then 0 else b.tokens-1 })))∧Fra (At n) H H'):=by
 refine fn_rule G.mixed G.bucket_Take rfl [] (fun hcl=>?_)
 repeat' (first | refine EI_i (fun _=>?_) (fun _=>?_) | simp only [go_sem,hn])
 ·rename_i h
  have h:b.tokens=0:=by simpa using h
  exact ⟨by rw [if_pos h,← h],Fra.mk1⟩
 ·refine ⟨?_,Fra.s1 Fra.mk1⟩
  rw [wrap64 (by omega) (by omega)]
  simp_all
theorem bucket_Tick_c (G:Good P F) {n:Nm} {b:Bkt} {H:AH} (hn:H.f n=some (.row 3 (cs (bktC b)))) (hw:WBkt b) :
  ACalls P F.bucket_Tick [.ptr n 0] H (fun _ H'=>H'.f n=some (.row 3 (cs (bktC { b with tokens:=min (b.tokens+b.refill) b.size })))∧Fra (At n) H H'):=by
 refine fn_rule G.mixed G.bucket_Tick rfl [] (fun hcl=>?_)
 unfold WBkt at hw
 have e:IntKind.i64.wrap (b.tokens+b.refill)=b.tokens+b.refill:=wrap64 (by omega) (by omega)
 repeat' (first | refine EI_i (fun _=>?_) (fun _=>?_) | simp only [go_sem,hn,e])
 exact Fra.s1 Fra.mk1
end Go.Ab

namespace Go.Ab
open Go Gh
variable {P : Program} {F : Nums}
theorem qEnd_eq {s:CS} {f:Int}:s.qEnd f={ s with acc:=(s.qEnd f).acc,qf:=(s.qEnd f).qf }:=by unfold CS.qEnd; split <;> rfl
theorem hGive_eq {s:CS} {h mem:Int}:s.hGive h mem={ s with hosts:=(s.hGive h mem).hosts }:=by unfold CS.hGive; split <;> rfl
theorem ptrMap_ups {α:Type} {nm:Int→Nm} {m:Int→Option α} {i:Int} {x y:α} (h:m i=some x):ptrMap nm (ups m i (some y))=ptrMap nm m:=by
 funext l
 unfold ptrMap ups
 split
 ·rename_i j
  by_cases e:j=i
  ·subst e; simp [h]
  ·simp [e]
 ·rfl
theorem FnsAt.set {c:Nat} {fns:Int→Option Fnc} {H H':AH} (h:FnsAt c fns H) {f:Int} {x y:Fnc} (hx:fns f=some x) (hf:Fra (fun n=>n=nFn c f∨n=nHis c f∨n=nRing c f) H H')
  (h1:H'.f (nFn c f)=some (.row 9 (cs (fnC c f y)))) (h2:H'.f (nHis c f)=some (.row 242 (histG y.h))) (h3:H'.f (nRing c f)=some (.row 9 (ringG y.r))):FnsAt c (ups fns f (some y)) H':=by
 have oth : ∀ n:Nm,n.t≠0→(n.t=tg c 5∨n.i≠f)→H'.f n=H.f n:=fun n h0 hn=>hf.at_ n (old_of h0) (fun hs=>by
  rcases hs with e | e | e <;> subst e <;> rcases hn with hn | hn
  ·simp [tg_inj] at hn
  ·exact hn rfl
  ·simp [tg_inj] at hn
  ·exact hn rfl
  ·simp [tg_inj] at hn
  ·exact hn rfl)
 refine ⟨?_,fun g z hg=>?_,fun g hg=>?_⟩
 ·rw [ptrMap_ups hx,oth _ tg_ne0 (.inl rfl)]; exact h.map
 ·unfold ups at hg
  by_cases e:g=f
  ·subst e
   simp only [if_true,Option.some.injEq] at hg
   subst hg
   exact ⟨h1,h2,h3⟩
  ·simp only [e,if_false] at hg
   have:=h.row g z hg
   rw [oth _ tg_ne0 (.inr e),oth _ tg_ne0 (.inr e),oth _ tg_ne0 (.inr e)]
   exact this
 ·unfold ups at hg
  by_cases e:g=f
  ·simp [e] at hg
  ·simp only [e,if_false] at hg
   have:=h.fresh g hg
   rw [oth _ tg_ne0 (.inr e),oth _ tg_ne0 (.inr e),oth _ tg_ne0 (.inr e)]
   exact this
theorem findB_del {boxes:List Box} {id i:Int}:findB (boxes.filter fun x=>x.id != id) i=if i=id then none else findB boxes i:=by
 unfold findB
 induction boxes with
 | nil=>simp
 | cons a r ih =>
  rw [List.filter_cons,List.find?_cons]
  by_cases e:a.id=id
  ·have e1:(a.id != id)=false:=by simp [e]
   rw [e1]
   simp only [Bool.false_eq_true,if_false]
   rw [ih]
   by_cases e2:i=id
   ·simp [e2]
   ·simp only [e2,if_false]
    have e3:(a.id==i)=false:=by simp; omega
    rw [e3]
  ·have e1:(a.id != id)=true:=by simp [e]
   rw [e1]
   simp only [if_true]
   rw [List.find?_cons]
   by_cases e3:a.id=i
   ·have e4:(a.id==i)=true:=by simp [e3]
    have e5 : ¬ i=id:=by omega
    rw [e4]; simp [e5]
   ·have e4:(a.id==i)=false:=by simp [e3]
    rw [e4]; exact ih
theorem ptrMap_del {boxes:List Box} {c:Nat} {id:Int}:ptrMap (nBox c) (findB (boxes.filter fun x=>x.id != id))=mset (ptrMap (nBox c) (findB boxes)) [id] none:=by
 funext l
 unfold mset ptrMap
 cases l with
 | nil=>simp
 | cons a r =>
  cases r with
  | nil =>
   simp only [findB_del]
   by_cases e:a=id
   ·simp [e]
   ·simp [e]
  | cons=>simp
theorem valMap_del {m:Int→Option Int} {id:Int}:valMap i64 (ups m id none)=mset (valMap i64 m) [id] none:=by
 funext l
 unfold mset valMap ups
 cases l with
 | nil=>simp
 | cons a r =>
  cases r with
  | nil =>
   by_cases e:a=id
   ·simp [e]
   ·simp [e]
  | cons=>simp
abbrev inCt (c:Nat) (n:Nm):Prop:=n.t / 64=c+1
theorem inCt_of {c k:Nat} {n:Nm} (hk:k<64) (h:n.t=tg c k):inCt c n:=by
 show n.t / 64=c+1
 rw [h]; unfold tg; omega
theorem ct_in {c:Nat} (n:Nm) (h:ctT c n):inCt c n:=by
 rcases h with h | h | h | h | h | h | h | h | h <;> exact inCt_of (by decide) h
theorem CoreAt.frN {c:Nat} {s:CS} {o:AV} {H H':AH} {S:Nm→Prop} (h:CoreAt F c o s H) (hf:Fra S H H') (hS : ∀ n,S n → ¬ inCt c n∧n.t≠0):CoreAt F c o s H':=by
 have k : ∀ j,j<64 → ∀ n:Nm,n.t=tg c j→H'.f n=H.f n:=fun j hj n hn=>hf.at_ n (old_of (by rw [hn]; exact tg_ne0)) (fun h=>(hS n h).1 (inCt_of hj hn))
 exact ⟨by rw [k 1 (by decide) _ rfl]; exact h.core,by unfold QAt; rw [k 2 (by decide) _ rfl]; exact h.q,
  h.tok.congr fun n hn=>by rcases hn with e | e <;> exact k _ (by decide) n e,
  h.fns.congr fun n hn=>by rcases hn with e | e | e | e <;> exact k _ (by decide) n e,
  by unfold HostsAt; rw [k 9 (by decide) _ rfl]; exact h.hosts,
  h.caches.congr fun n hn=>by rcases hn with e | e | e | e | e <;> exact k _ (by decide) n e,
  h.boxes.congr fun n hn=>by rcases hn with e | e <;> exact k _ (by decide) n e,
  by unfold AheadAt; rw [k 17 (by decide) _ rfl]; exact h.ahead,
  h.timers.congr fun n hn=>by rcases hn with e | e | e | e <;> exact k _ (by decide) n e,
  h.out.congr hf.k (out_keep h.out hf fun n hn h0=>(hS n hn).2 h0)⟩
theorem CoreAt.same {c:Nat} {s:CS} {o:AV} {H H':AH} (h:CoreAt F c o s H) (hs:Same H H'):CoreAt F c o s H':=h.frN (S:=fun _=>False) hs.fra (fun _ h=>h.elim)
def repl (boxes:List Box) (b:Box):List Box:=boxes.map fun x=>if x.id=b.id then b else x
theorem findB_repl {boxes:List Box} {b:Box} {i:Int}:findB (repl boxes b) i=(findB boxes i).map fun x=>if x.id=b.id then b else x:=by
 unfold findB repl
 induction boxes with
 | nil=>rfl
 | cons a r ih =>
  rw [List.map_cons,List.find?_cons,List.find?_cons]
  have e:(if a.id=b.id then b else a).id=a.id:=by split <;> simp_all
  rw [e]
  by_cases h:(a.id==i)=true
  ·rw [h]; rfl
  ·rw [Bool.not_eq_true] at h
   rw [h]; exact ih
theorem BoxesAt.set {c:Nat} {boxes:List Box} {next:Int} {H H':AH} (h:BoxesAt c boxes next H) {b:Box} (hn:b.id<next) (hf:Fra (At (nBox c b.id)) H H') (hr:H'.f (nBox c b.id)=some (.row 8 (cs (boxC b)))):BoxesAt c (repl boxes b) next H' where
 map:=by
  have:ptrMap (nBox c) (findB (repl boxes b))=ptrMap (nBox c) (findB boxes):=by
   funext l
   unfold ptrMap
   split
   ·rw [findB_repl,Option.map_map]; rfl
   ·rfl
  rw [this,hf.at_ _ (old_of tg_ne0) (fun e=>by have:=congrArg Nm.t e; simp [tg_inj] at this)]
  exact h.map
 row x hx:=by
  unfold repl at hx
  obtain ⟨y,hy,rfl⟩:=List.mem_map.1 hx
  by_cases e:y.id=b.id
  ·simp only [e,if_true]; exact hr
  ·simp only [e,if_false]
   rw [hf.at_ _ (old_of tg_ne0) (fun e'=>e (by have:=congrArg Nm.i e'; simpa using this))]
   exact h.row y hy
 fresh id hid:=by
  rw [hf.at_ _ (old_of tg_ne0) (fun e'=>by have:=congrArg Nm.i e'; simp at this; omega)]
  exact h.fresh id hid
theorem BoxesAt.del {c:Nat} {boxes:List Box} {next:Int} {H H':AH} (h:BoxesAt c boxes next H) {id:Int} (hf:Fra (At (nBoxes c)) H H') (hm:H'.f (nBoxes c)=some (.mp 1 (mset (ptrMap (nBox c) (findB boxes)) [id] none))):BoxesAt c (boxes.filter fun x=>x.id != id) next H' where
 map:=by rw [ptrMap_del]; exact hm
 row x hx:=by
  rw [hf.at_ _ (old_of tg_ne0) (fun e'=>by have:=congrArg Nm.t e'; simp [tg_inj] at this)]
  exact h.row x (List.mem_filter.1 hx).1
 fresh id hid:=by
  rw [hf.at_ _ (old_of tg_ne0) (fun e'=>by have:=congrArg Nm.t e'; simp [tg_inj] at this)]
  exact h.fresh id hid
theorem repl_filter {boxes:List Box} {b:Box}:(repl boxes b).filter (fun x=>x.id != b.id)=boxes.filter fun x=>x.id != b.id:=by
 unfold repl
 rw [List.filter_map]
 have:(boxes.filter ((fun x=>x.id != b.id) ∘ fun x=>if x.id=b.id then b else x))=boxes.filter fun x=>x.id != b.id:=by
  refine List.filter_congr fun x _=>?_
  simp only [Function.comp_apply]
  by_cases e:x.id=b.id <;> simp [e]
 rw [this]
 refine (List.map_congr_left (g:=fun x=>x) fun x hx=>?_).trans (List.map_id' _)
 have:=(List.mem_filter.1 hx).2
 have e : ¬ x.id=b.id:=by simpa using this
 simp [e]
theorem core_gone_c (G:Good P F) {c:Nat} {s:CS} {o:AV} {H:AH} {k:Int→Int} (hw:WF { s with clock:=k }) (hfew:Few s) (hc:CoreAt F c o s H) {b:Box} (hb:b∈s.boxes) :
  ACalls P F.core_gone [.ptr (nC c) 0,.ptr (nBox c b.id) 0] H (fun _ H'=>CoreAt F c o (s.gone b) H'∧H'.f (nBox c b.id)=some (.row 8 (cs (boxC (Ab.Box.killed b s.now))))∧Fra (inCt c) H H'):=by
 refine fn_rule G.mixed G.core_gone rfl [] (fun hcl=>?_)
 simp only [go_sem]
 refine CA_s [] (core_take_c G (H:=⟨H.f,H.k,[]⟩) hw hfew hc.mk' hb) ?_
 rintro _ H1 ⟨hc1,hf1⟩ _ _
 have hf1:Fra (ctT c) H H1:=hf1.of_mk
 have hw1:=hw.take b
 simp only [go_sem]
 refine CA_s [] (box_Runs_c G (b:=b) (H:=⟨H1.f,H1.k,[]⟩) (hc1.boxes.row b hb)) ?_
 rintro _ H2 ⟨rfl,hs2⟩ _ _
 have hs2:Same H1 H2:=hs2.of_mk
 have hc2:CoreAt F c o (s.take b) H2:=hc1.same hs2
 simp only [go_sem]
 refine EI_i (fun d=>?_) (fun d=>?_)
 ·have hq2:=hc2.q
  have hcr2:=hc2.core
  have hb2:=hc2.boxes.row b hb
  simp only [go_sem,hcr2,hb2]
  refine CA_s [] (quota_End_c G (n:=nQ c) tg_ne0 (s.take b) (f:=b.fn) (H:=⟨H2.f,H2.k,[]⟩) hq2 hw.q) ?_
  rintro _ H3 ⟨hq3,hf3⟩ _ _
  have hf3:Fra (At (nQ c)) H2 H3:=hf3.of_mk
  have hcq:=hc2.q' hf3 (fun n h=>by rw [h]) hq3
  obtain ⟨x,hx,hxm⟩:=(hw.b.2 b hb).fn
  have hcr3:=hcq.core
  have hb3:H3.f (nBox c b.id)=some (.row 8 (cs (boxC b))):=hcq.boxes.row b hb
  have hfm:=hcq.fns.map
  have hfr:=hcq.fns.row b.fn x hx
  have pm:ptrMap (nFn c) s.fns [b.fn]=some (.ptr (nFn c b.fn) 0):=by show (s.fns b.fn).map _=_; rw [hx]; rfl
  have n6:nC c≠nFn c b.fn:=fun e=>by have:=congrArg Nm.t e; simp [tg_inj] at this
  have n7:nBox c b.id≠nFn c b.fn:=fun e=>by have:=congrArg Nm.t e; simp [tg_inj] at this
  have n8:nHis c b.fn≠nFn c b.fn:=fun e=>by have:=congrArg Nm.t e; simp [tg_inj] at this
  have n9:nRing c b.fn≠nFn c b.fn:=fun e=>by have:=congrArg Nm.t e; simp [tg_inj] at this
  have hfm:H3.f (nFns c)=some (.mp 1 (ptrMap (nFn c) s.fns)):=hfm
  simp only [go_sem,hcr3,hb3,hfm,pm,hfr.1,n6,n7]
  have hff:Fra (At (nFn c b.fn)) H3 ((⟨H3.f,H3.k,[]⟩:AH).set (nFn c b.fn) (.row 9 (cs (fnC c b.fn { x with last:=s.now })))):=Fra.mk1.s1
  have hcx:=hcq.fns' (x:=ups s.fns b.fn (some { x with last:=s.now })) hff (fun n h=>by rw [h]; exact .inr (.inl rfl)) (FnsAt.set hcq.fns (y:={ x with last:=s.now }) hx (hff.mono fun n h=>.inl h) (by simp only [go_sem]) (by simp only [go_sem,n8]; exact hfr.2.1) (by simp only [go_sem,n9]; exact hfr.2.2))
  have hie:(s.take b).ended b.fn={ (s.take b) with acc:=((s.take b).qEnd b.fn).acc,qf:=((s.take b).qEnd b.fn).qf,fns:=ups s.fns b.fn (some { x with last:=s.now }) }:=by
   unfold CS.ended CS.setFn
   rw [qEnd_eq]
   show ({ (s.take b) with acc:=((s.take b).qEnd b.fn).acc,qf:=((s.take b).qEnd b.fn).qf,fns:=ups s.fns b.fn ((s.fns b.fn).map _) }:CS)=_
   rw [hx]; rfl
  refine CA_s [] (box_Kill_c G (b:=b) (now:=s.now) (H:=((⟨H3.f,H3.k,[]⟩:AH).set (nFn c b.fn) (.row 9 (cs (fnC c b.fn { x with last:=s.now }))))) (hcx.boxes.row b hb)) ?_
  rintro _ H4 ⟨hb4,hf4⟩ _ _
  have hid:(Ab.Box.killed b s.now).id=b.id:=by unfold Ab.Box.killed; split <;> rfl
  have hho:(Ab.Box.killed b s.now).host=b.host∧(Ab.Box.killed b s.now).mem=b.mem:=by unfold Ab.Box.killed; split <;> exact ⟨rfl,rfl⟩
  have hf4:Fra (At (nBox c b.id)) (((⟨H3.f,H3.k,[]⟩:AH).set (nFn c b.fn) (.row 9 (cs (fnC c b.fn { x with last:=s.now }))))) H4:=hf4
  have hc4:=hcx.boxes' (x:=repl s.boxes (Ab.Box.killed b s.now)) hf4 (fun n h=>by rw [h]; exact .inr rfl) (BoxesAt.set hcx.boxes (b:=Ab.Box.killed b s.now) (by rw [hid]; exact (hw.b.2 b hb).id.2) (by rw [hid]; exact hf4) (by rw [hid]; exact hb4))
  have hcr4:=hc4.core
  have hh4:=hc4.hosts
  simp only [go_sem,hcr4,hb4,hho.1,hho.2]
  refine CA_s [] (host_Give_c G (n:=nHosts c) tg_ne0 (({ (s.take b) with acc:=((s.take b).qEnd b.fn).acc,qf:=((s.take b).qEnd b.fn).qf,fns:=ups s.fns b.fn (some { x with last:=s.now }) }:CS)) (h:=b.host) (mem:=b.mem) (H:=⟨H4.f,H4.k,[]⟩) hh4 hw.h) ?_
  rintro _ H5 ⟨hh5,hf5⟩ _ _
  have hf5:Fra (At (nHosts c)) H4 H5:=hf5.of_mk
  have hc5:=hc4.hosts' (x:=((({ (s.take b) with acc:=((s.take b).qEnd b.fn).acc,qf:=((s.take b).qEnd b.fn).qf,fns:=ups s.fns b.fn (some { x with last:=s.now }) }:CS)).hGive b.host b.mem).hosts) hf5 (fun n h=>by rw [h]) hh5
  have hcr5:=hc5.core
  have hb5:H5.f (nBox c b.id)=some (.row 8 (cs (boxC (Ab.Box.killed b s.now)))):=(hf5.at_ _ (old_of tg_ne0) (fun e=>by have:=congrArg Nm.t e; simp [tg_inj] at this)).trans hb4
  have hm5:=hc5.boxes.map
  have ha5:H5.f (nAhead c)=_:=hc5.ahead
  have n1:nBox c b.id≠nBoxes c:=fun e=>by have:=congrArg Nm.t e; simp [tg_inj] at this
  have n2:nC c≠nBoxes c:=fun e=>by have:=congrArg Nm.t e; simp [tg_inj] at this
  have n3:nAhead c≠nBoxes c:=fun e=>by have:=congrArg Nm.t e; simp [tg_inj] at this
  have n4:nBox c b.id≠nAhead c:=fun e=>by have:=congrArg Nm.t e; simp [tg_inj] at this
  simp only [go_sem,hcr5,hb5,hid,hm5,ha5,n1,n2,n3]
  have hd : ∀ m,Fra (At (nBoxes c)) H5 ((⟨H5.f,H5.k,[]⟩:AH).set (nBoxes c) m):=fun m=>Fra.mk1.s1
  have hc6:=hc5.boxes' (x:=s.boxes.filter fun x=>x.id != b.id) (hd (.mp 1 (mset (ptrMap (nBox c) (findB (repl s.boxes (Ab.Box.killed b s.now)))) [b.id] none))) (fun n h=>by rw [h]; exact .inl rfl) (by
   rw [← hid,← repl_filter,hid]
   exact hc5.boxes.del (hd _) (by simp only [go_sem]))
  have he : ∀ {A:AH} {m},Fra (At (nAhead c)) A (A.set (nAhead c) m):=(Fra.refl _ _).s1
  have hc7:=hc6.ahead' (x:=ups s.ahead b.id none) (he (m:=.mp 1 (mset (valMap i64 s.ahead) [b.id] none))) (fun n h=>by rw [h]) (by unfold AheadAt; simp only [go_sem]; rw [valMap_del])
  refine ⟨?_,?_,?_⟩
  ·have e1:s.gone b={ ((s.take b).ended b.fn).hGive b.host b.mem with boxes:=(((s.take b).ended b.fn).hGive b.host b.mem).boxes.filter (fun x=>x.id != b.id),ahead:=ups (((s.take b).ended b.fn).hGive b.host b.mem).ahead b.id none }:=by
    unfold CS.gone; simp only [d,if_true]
   rw [e1,hie,hGive_eq]
   exact hc7
  ·simp only [go_sem,n1,n4,hb5]
  ·have i4 : ∀ n,At (nBox c b.id) n→inCt c n:=fun n h=>by rw [h]; exact inCt_of (by decide) rfl
   have i5 : ∀ n,At (nHosts c) n→inCt c n:=fun n h=>by rw [h]; exact inCt_of (by decide) rfl
   exact Fra.set (Fra.set ((Fra.trans (Fra.trans (hf1.mono ct_in) (Fra.trans hs2.fra (Fra.trans (hf3.mono fun n h=>by rw [h]; exact inCt_of (by decide) rfl) (hff.mono fun n h=>by rw [h]; exact inCt_of (by decide) rfl)))) (Fra.trans (hf4.mono i4) (hf5.mono i5))).mk') (.inl (inCt_of (by decide) rfl))) (.inl (inCt_of (by decide) rfl))
 ·have hcr2:=hc2.core
  simp only [go_sem,hcr2]
  have hcx:CoreAt F c o (s.take b) ⟨H2.f,H2.k,[]⟩:=hc2.mk'
  refine CA_s [] (box_Kill_c G (b:=b) (now:=s.now) (H:=⟨H2.f,H2.k,[]⟩) (hcx.boxes.row b hb)) ?_
  rintro _ H4 ⟨hb4,hf4⟩ _ _
  have hid:(Ab.Box.killed b s.now).id=b.id:=by unfold Ab.Box.killed; split <;> rfl
  have hho:(Ab.Box.killed b s.now).host=b.host∧(Ab.Box.killed b s.now).mem=b.mem:=by unfold Ab.Box.killed; split <;> exact ⟨rfl,rfl⟩
  have hf4:Fra (At (nBox c b.id)) (⟨H2.f,H2.k,[]⟩) H4:=hf4
  have hc4:=hcx.boxes' (x:=repl s.boxes (Ab.Box.killed b s.now)) hf4 (fun n h=>by rw [h]; exact .inr rfl) (BoxesAt.set hcx.boxes (b:=Ab.Box.killed b s.now) (by rw [hid]; exact (hw.b.2 b hb).id.2) (by rw [hid]; exact hf4) (by rw [hid]; exact hb4))
  have hcr4:=hc4.core
  have hh4:=hc4.hosts
  simp only [go_sem,hcr4,hb4,hho.1,hho.2]
  refine CA_s [] (host_Give_c G (n:=nHosts c) tg_ne0 (s.take b) (h:=b.host) (mem:=b.mem) (H:=⟨H4.f,H4.k,[]⟩) hh4 hw.h) ?_
  rintro _ H5 ⟨hh5,hf5⟩ _ _
  have hf5:Fra (At (nHosts c)) H4 H5:=hf5.of_mk
  have hc5:=hc4.hosts' (x:=((s.take b).hGive b.host b.mem).hosts) hf5 (fun n h=>by rw [h]) hh5
  have hcr5:=hc5.core
  have hb5:H5.f (nBox c b.id)=some (.row 8 (cs (boxC (Ab.Box.killed b s.now)))):=(hf5.at_ _ (old_of tg_ne0) (fun e=>by have:=congrArg Nm.t e; simp [tg_inj] at this)).trans hb4
  have hm5:=hc5.boxes.map
  have ha5:H5.f (nAhead c)=_:=hc5.ahead
  have n1:nBox c b.id≠nBoxes c:=fun e=>by have:=congrArg Nm.t e; simp [tg_inj] at this
  have n2:nC c≠nBoxes c:=fun e=>by have:=congrArg Nm.t e; simp [tg_inj] at this
  have n3:nAhead c≠nBoxes c:=fun e=>by have:=congrArg Nm.t e; simp [tg_inj] at this
  have n4:nBox c b.id≠nAhead c:=fun e=>by have:=congrArg Nm.t e; simp [tg_inj] at this
  simp only [go_sem,hcr5,hb5,hid,hm5,ha5,n1,n2,n3]
  have hd : ∀ m,Fra (At (nBoxes c)) H5 ((⟨H5.f,H5.k,[]⟩:AH).set (nBoxes c) m):=fun m=>Fra.mk1.s1
  have hc6:=hc5.boxes' (x:=s.boxes.filter fun x=>x.id != b.id) (hd (.mp 1 (mset (ptrMap (nBox c) (findB (repl s.boxes (Ab.Box.killed b s.now)))) [b.id] none))) (fun n h=>by rw [h]; exact .inl rfl) (by
   rw [← hid,← repl_filter,hid]
   exact hc5.boxes.del (hd _) (by simp only [go_sem]))
  have he : ∀ {A:AH} {m},Fra (At (nAhead c)) A (A.set (nAhead c) m):=(Fra.refl _ _).s1
  have hc7:=hc6.ahead' (x:=ups s.ahead b.id none) (he (m:=.mp 1 (mset (valMap i64 s.ahead) [b.id] none))) (fun n h=>by rw [h]) (by unfold AheadAt; simp only [go_sem]; rw [valMap_del])
  refine ⟨?_,?_,?_⟩
  ·have e1:s.gone b={ (s.take b).hGive b.host b.mem with boxes:=((s.take b).hGive b.host b.mem).boxes.filter (fun x=>x.id != b.id),ahead:=ups ((s.take b).hGive b.host b.mem).ahead b.id none }:=by
    unfold CS.gone; simp only [d,Bool.false_eq_true,if_false]
   rw [e1,hGive_eq]
   exact hc7
  ·simp only [go_sem,n1,n4,hb5]
  ·have i4 : ∀ n,At (nBox c b.id) n→inCt c n:=fun n h=>by rw [h]; exact inCt_of (by decide) rfl
   have i5 : ∀ n,At (nHosts c) n→inCt c n:=fun n h=>by rw [h]; exact inCt_of (by decide) rfl
   exact Fra.set (Fra.set ((Fra.trans ((Fra.trans (hf1.mono ct_in) hs2.fra).mk') (Fra.trans (hf4.mono i4) (hf5.mono i5))).mk') (.inl (inCt_of (by decide) rfl))) (.inl (inCt_of (by decide) rfl))
end Go.Ab

namespace Go.Ab
open Go Gh
variable {P : Program} {F : Nums}
abbrev coS (c:Nat) (o:AV) (n:Nm):Prop:=inCt c n∨isOut o n
structure CStep (F:Nums) (c:Nat) (o:AV) (H:AH) (o':AV) (s':CS) (H':AH):Prop where
 at_:CoreAt F c o' s' H'
 fra:Fra (coS c o) H H'
 out : ∀ n,isOut o' n→isOut o n∨(n.t=0∧H.k≤n.i)
theorem CStep.mk' {c:Nat} {o o':AV} {s':CS} {H H':AH} {l:List Nm} (h:CStep F c o H o' s' H'):CStep F c o H o' s' ⟨H'.f,H'.k,l⟩:=⟨h.at_.mk',h.fra.mk',h.out⟩
theorem CStep.of_mk {c:Nat} {o o':AV} {s':CS} {H H':AH} {l:List Nm} (h:CStep F c o ⟨H.f,H.k,l⟩ o' s' H'):CStep F c o H o' s' H':=⟨h.at_,h.fra.of_mk,h.out⟩
theorem CStep.in_ {c:Nat} {o:AV} {s':CS} {H H':AH} (h:CoreAt F c o s' H') (hf:Fra (inCt c) H H'):CStep F c o H o s' H':=⟨h,hf.mono fun _ h=>.inl h,fun _ h=>.inl h⟩
theorem CStep.trans {c:Nat} {o o1 o2:AV} {s1 s2:CS} {H H1 H2:AH} (h:CStep F c o H o1 s1 H1) (h':CStep F c o1 H1 o2 s2 H2):CStep F c o H o2 s2 H2 where
 at_:=h'.at_
 fra:=⟨Int.le_trans h.fra.k h'.fra.k,fun n hn hs=>by
  rw [h'.fra.at_ n (hn.mono h.fra.k) (fun hh=>by
   rcases hh with hh | hh
   ·exact hs (.inl hh)
   ·rcases h.out n hh with h1 | ⟨h1,h2⟩
    ·exact hs (.inr h1)
    ·have:=hn h1; omega),h.fra.at_ n hn hs]⟩
 out n hn:=by
  rcases h'.out n hn with h1 | ⟨h1,h2⟩
  ·exact h.out n h1
  ·exact .inr ⟨h1,Int.le_trans h.fra.k h2⟩
theorem CoreAt.out' {c:Nat} {s:CS} {o o':AV} {out':List Cmd} {H H':AH} (h:CoreAt F c o s H) (hf:Fra (fun n=>n=nC c∨isOut o n) H H') (hr:H'.f (nC c)=some (.row 16 (cs (coreC c s o')))) (ho:OutAt o' out' H'):CoreAt F c o' { s with out:=out' } H':=by
 have k : ∀ j,j≠1 → ∀ n:Nm,n.t=tg c j→H'.f n=H.f n:=fun j hj n hn=>hf.at_ n (old_of (by rw [hn]; exact tg_ne0)) (fun hh=>by
  rcases hh with hh | hh
  ·rw [hh] at hn; simp only [tg_inj] at hn; omega
  ·rcases h.out with ⟨_,e⟩ | ⟨_,m,_,m0,_,e,_⟩
   ·obtain ⟨_,e'⟩:=hh; rw [e] at e'; cases e'
   ·obtain ⟨_,e'⟩:=hh; rw [e] at e'; cases e'; rw [m0] at hn; exact tg_ne0' hn)
 exact ⟨hr,by unfold QAt; rw [k 2 (by decide) _ rfl]; exact h.q,
  h.tok.congr fun n hn=>by rcases hn with e | e <;> exact k _ (by decide) n e,
  h.fns.congr fun n hn=>by rcases hn with e | e | e | e <;> exact k _ (by decide) n e,
  by unfold HostsAt; rw [k 9 (by decide) _ rfl]; exact h.hosts,
  h.caches.congr fun n hn=>by rcases hn with e | e | e | e | e <;> exact k _ (by decide) n e,
  h.boxes.congr fun n hn=>by rcases hn with e | e <;> exact k _ (by decide) n e,
  by unfold AheadAt; rw [k 17 (by decide) _ rfl]; exact h.ahead,
  h.timers.congr fun n hn=>by rcases hn with e | e | e | e <;> exact k _ (by decide) n e,
  ho⟩
theorem getD_appC {a b:List Cmd} {k:Nat} {d:Cmd}:(a++b).getD k d=if k<a.length then a.getD k d else b.getD (k-a.length) d:=by
 simp only [List.getD_eq_getElem?_getD]
 split
 ·rw [List.getElem?_append_left (by assumption)]
 ·rw [List.getElem?_append_right (by omega)]
theorem out_snoc {out:List Cmd} {k:Cmd} {g:Nat→AV} (hg : ∀ i,i<out.length*4→g i=rowOf 4 cmdC (fun i=>out.getD i ⟨false,0,0,0⟩) i) :
  ∀ i,i<(out++[k]).length*4→(if i<out.length*4 then g i else (cmdC k).getD (i-out.length*4) .any)=rowOf 4 cmdC (fun i=>(out++[k]).getD i ⟨false,0,0,0⟩) i:=by
 intro i hi
 rw [List.length_append,List.length_singleton] at hi
 unfold rowOf
 simp only [getD_appC]
 by_cases h:i<out.length*4
 ·rw [if_pos h,hg i h,if_pos (by omega)]; rfl
 ·have h1:i / 4=out.length:=by omega
  have h2:i % 4=i-out.length*4:=by omega
  rw [if_neg h,if_neg (by omega),h1,h2,Nat.sub_self]; rfl
theorem hGive_out {s:CS} {h m:Int}:(s.hGive h m).out=s.out:=by rw [hGive_eq]
theorem qEnd_out {s:CS} {f:Int}:(s.qEnd f).out=s.out:=by rw [qEnd_eq]
theorem gone_out {s:CS} {b:Box}:(s.gone b).out=s.out:=by
 show (CS.hGive (if b.runs then (s.take b).ended b.fn else s.take b) b.host b.mem).out=s.out
 rw [hGive_out]
 split
 ·show ((s.take b).qEnd b.fn).out=s.out
  rw [qEnd_out]; rfl
 ·rfl
theorem core_kill_c (G:Good P F) {c:Nat} {s:CS} {o:AV} {H:AH} {k:Int→Int} (hw:WF { s with clock:=k }) (hfew:Few s) (hout:s.out.length<2147483648) (hc:CoreAt F c o s H) {b:Box} (hb:b∈s.boxes) :
  ACalls P F.core_kill [.ptr (nC c) 0,.ptr (nBox c b.id) 0] H (fun _ H' => ∃ o',CStep F c o H o' (s.kill b) H'):=by
 refine fn_rule G.mixed G.core_kill rfl [] (fun hcl=>?_)
 simp only [go_sem]
 refine CA_s [] (core_gone_c G (H:=⟨H.f,H.k,[]⟩) hw hfew hc.mk' hb) ?_
 rintro _ H1 ⟨hc1,hb1,hf1⟩ _ _
 have hf1:Fra (inCt c) H H1:=hf1.of_mk
 have hcr1:=hc1.core
 have hk1:H.k≤H1.k:=hf1.k
 have hid:(Ab.Box.killed b s.now).id=b.id∧(Ab.Box.killed b s.now).fn=b.fn∧(Ab.Box.killed b s.now).host=b.host:=by unfold Ab.Box.killed; split <;> exact ⟨rfl,rfl,rfl⟩
 have p32:(2 ^ 32<4)=False:=by simp
 have n1:(⟨0,H1.k,0⟩:Nm)≠⟨0,H1.k,1⟩:=tmp_ne (by decide)
 have n2 : ∀ q,nC c≠⟨0,H1.k,q⟩:=fun q e=>tg_ne0 (congrArg Nm.t e)
 have ho:(s.gone b).out=s.out:=gone_out
 have ho1:=hc1.out
 rw [ho] at ho1
 have hkill:s.kill b={ s.gone b with out:=s.out++[⟨false,b.id,b.fn,b.host⟩] }:=by unfold CS.kill; simp only [ho]
 rcases ho1 with ⟨e0,rfl⟩ | ⟨e0,m,g,m0,m1,rfl,m3,m4⟩
 ·simp only [go_sem,hcr1,hb1,hid.1,hid.2.1,hid.2.2,p32,n1,n2,or_self,Nat.reduceDiv]
  have hfx:Fra (fun n=>n=nC c∨isOut .nils n) H1 _:=((Fra.set (Fra.set (Fra.set (Fra.mk1 (s:=([]:List Nm))) (.inr (nold (q:=0) (Int.le_refl _))) (o:=.row 4 (cs [.bool false,i64 b.id,i64 b.fn,i64 b.host]))) (.inr (nold (q:=1) (Int.le_refl _))) (o:=.row 4 (cs [.bool false,i64 b.id,i64 b.fn,i64 b.host]))) (n:=nC c) (o:=.row 16 (cs (coreC c (s.gone b) (.slice ⟨0,H1.k,1⟩ 4 0 1)))) (.inl (.inl rfl))).bmp (c:=2))
  refine ⟨.slice ⟨0,H1.k,1⟩ 4 0 1,?_,(hf1.mono fun _ h=>.inl h).trans (hfx.mono fun n h=>h.elim (fun e=>.inl (by rw [e]; exact inCt_of (by decide) rfl)) .inr),?_⟩
  ·rw [hkill]
   refine hc1.out' hfx (by simp only [go_sem]) (.inr ⟨by simp,⟨0,H1.k,1⟩,_,rfl,by show H1.k<H1.k+1; omega,by rw [e0]; rfl,by rw [e0]; simp only [go_sem,(n2 1).symm]; rfl,?_⟩)
   rw [e0]
   intro i hi
   have:i=0∨i=1∨i=2∨i=3:=by simp at hi; omega
   rcases this with rfl | rfl | rfl | rfl <;> rfl
  ·rintro n ⟨l,h⟩
   cases h
   exact .inr ⟨rfl,hk1⟩
 ·obtain ⟨mt,mi,mj⟩:=m
  simp only at m0 m1
  subst m0
  have n3:(⟨0,mi,mj⟩:Nm)≠⟨0,H1.k,0⟩:=tmp_nei (by omega)
  have n4:(⟨0,mi,mj⟩:Nm)≠⟨0,H1.k,1⟩:=tmp_nei (by omega)
  have n5:nC c≠⟨0,mi,mj⟩:=fun e=>tg_ne0 (congrArg Nm.t e)
  have l32:s.out.length≤2 ^ 32:=by omega
  simp only [go_sem,hcr1,hb1,hid.1,hid.2.1,hid.2.2,p32,n1,n1.symm,n2,n3,n4,n5,n3.symm,n4.symm,m3,l32,or_self,Nat.reduceDiv]
  have hso:isOut (.slice ⟨0,mi,mj⟩ 4 0 s.out.length) ⟨0,mi,mj⟩:=⟨_,rfl⟩
  have hfx:Fra (fun n=>n=nC c∨isOut (.slice ⟨0,mi,mj⟩ 4 0 s.out.length) n) H1 _:=((Fra.set (Fra.set (Fra.set (Fra.set (Fra.mk1 (s:=([]:List Nm))) (.inr (nold (q:=0) (Int.le_refl _))) (o:=.row 4 (cs [.bool false,i64 b.id,i64 b.fn,i64 b.host]))) (.inl (.inr hso)) (o:=.dead)) (.inr (nold (q:=1) (Int.le_refl _))) (o:=.row (s.out.length*4+4) fun i=>if i<s.out.length*4 then g i else [.bool false,i64 b.id,i64 b.fn,i64 b.host].getD (i-s.out.length*4) .any)) (n:=nC c) (o:=.row 16 (cs (coreC c (s.gone b) (.slice ⟨0,H1.k,1⟩ 4 0 (s.out.length+1))))) (.inl (.inl rfl))).bmp (c:=2))
  refine ⟨.slice ⟨0,H1.k,1⟩ 4 0 (s.out.length+1),?_,(hf1.mono fun _ h=>.inl h).trans (hfx.mono fun n h=>h.elim (fun e=>.inl (by rw [e]; exact inCt_of (by decide) rfl)) .inr),?_⟩
  ·rw [hkill]
   refine hc1.out' hfx (by simp only [go_sem]) (.inr ⟨by simp,⟨0,H1.k,1⟩,_,rfl,by show H1.k<H1.k+1; omega,by rw [List.length_append]; rfl,by rw [List.length_append,List.length_singleton,Nat.succ_mul]; simp only [go_sem,(n2 1).symm],out_snoc m4⟩)
  ·rintro n ⟨l,h⟩
   cases h
   exact .inr ⟨rfl,hk1⟩
end Go.Ab

namespace Go.Ab
open Go Gh
variable {P : Program} {F : Nums}
theorem fns_ptr {c:Nat} {fns:Int→Option Fnc} {f:Int} {x:Fnc} (hx:fns f=some x):ptrMap (nFn c) fns [f]=some (.ptr (nFn c f) 0):=by show (fns f).map _=_; rw [hx]; rfl
theorem core_window_c (G:Good P F) {c:Nat} {s:CS} {o:AV} {H:AH} (hw:WF s) (hc:CoreAt F c o s H) {f:Int} {x:Fnc} (hx:s.fns f=some x) :
  ACalls P F.core_window [.ptr (nC c) 0,i64 f] H (fun v H'=>v=.agg (winC (s.win f))∧Same H H'):=by
 refine fn_rule G.mixed G.core_window rfl [] (fun hcl=>?_)
 have hcr:=hc.core
 have hm:=hc.fns.map
 have hr:=hc.fns.row f x hx
 have pm:=fns_ptr (c:=c) hx
 have n1:nC c≠⟨0,H.k,0⟩:=fun e=>tg_ne0 (congrArg Nm.t e)
 have n2:nFns c≠⟨0,H.k,0⟩:=fun e=>tg_ne0 (congrArg Nm.t e)
 have n3:nFn c f≠⟨0,H.k,0⟩:=fun e=>tg_ne0 (congrArg Nm.t e)
 have hs:Same H (bmp 1 ((⟨H.f,H.k,[]⟩:AH).set ⟨0,H.k,0⟩ (.row 3 (cs [i64 0,i64 0,i64 0])))):=(Same.mk1.tmp).bmp
 have hwf:=(hw.f f x hx).2.1
 simp only [go_sem,hcr,hm,hr.1,pm,n1,n2,n3]
 refine CA_s [] (policy_Of_c G tg_ne0 tg_ne0 hwf.h hwf.r (hs.some (old_of tg_ne0) hr.2.1) (hs.some (old_of tg_ne0) hr.2.2)) ?_
 rintro _ H1 ⟨rfl,h1⟩ _ _
 have hb:H1.f ⟨0,H.k,0⟩=some (.row 3 (cs [i64 0,i64 0,i64 0])):=by
  rw [h1.at_ _ (fun _=>by show H.k<H.k+1; omega)]; simp only [go_sem]
 simp only [go_sem,hb]
 refine ⟨?_,(hs.trans h1).mk'.set (nold (Int.le_refl _))⟩
 unfold CS.win
 rw [hx]
theorem core_free_1_c (G:Good P F) {n:Nm} {b:Box} {H:AH} (hb:H.f n=some (.row 8 (cs (boxC b)))) {nf:Nm} {f:Int} (hf:H.f nf=some (.row 1 (cs [i64 f]))) :
  ACalls P F.core_free_1 [.ptr n 0,.ptr nf 0] H (fun v H'=>v=.bool (b.fn==f&&b.idle)∧Same H H'):=by
 refine fn_rule G.mixed G.core_free_1 rfl [] (fun hcl=>?_)
 simp only [go_sem,hb,hf]
 refine EI_i (fun d=>?_) (fun d=>?_)
 ·simp only [go_sem,d]
  refine CA_s [] (box_Idle_c G (b:=b) (H:=⟨H.f,H.k,[]⟩) hb) ?_
  rintro _ H1 ⟨rfl,h1⟩ _ _
  simp only [go_sem,d]
  exact ⟨by rw [Bool.true_and],h1.of_mk.mk'⟩
 ·simp only [go_sem,d]
  exact ⟨by rw [Bool.false_and],Same.mk1⟩
theorem core_ahead_1_c (G:Good P F) {n:Nm} {b:Box} {H:AH} (hb:H.f n=some (.row 8 (cs (boxC b)))) {nf:Nm} {f:Int} (hf:H.f nf=some (.row 1 (cs [i64 f]))) :
  ACalls P F.core_ahead_1 [.ptr n 0,.ptr nf 0] H (fun v H'=>v=.bool (b.fn==f)∧Same H H'):=by
 refine fn_rule G.mixed G.core_ahead_1 rfl [] (fun hcl=>?_)
 simp only [go_sem,hb,hf]
 exact Same.mk1
theorem core_room_1_c (G:Good P F) {n:Nm} (ht:n.t≠0) {b:Box} {H:AH} (hb:H.f n=some (.row 8 (cs (boxC b)))) {nf:Nm} {f:Int} (hf:H.f nf=some (.row 1 (cs [i64 f]))) :
  ACalls P F.core_room_1 [.ptr n 0,.ptr nf 0] H (fun v H'=>v=.bool (b.host==f&&b.idle && !b.pinned)∧Same H H'):=by
 refine fn_rule G.mixed G.core_room_1 rfl [] (fun hcl=>?_)
 simp only [go_sem,hb,hf]
 refine EI_i (fun d=>?_) (fun d=>?_)
 ·simp only [go_sem,d]
  refine CA_s [] (box_Idle_c G (b:=b) (H:=⟨H.f,H.k,[]⟩) hb) ?_
  rintro _ H1 ⟨rfl,h1⟩ _ _
  have h1:Same H H1:=h1.of_mk
  have hb1:=h1.some (old_of ht) hb
  simp only [go_sem,d]
  refine EI_i (fun e=>?_) (fun e=>?_)
  ·simp only [go_sem,d,e,hb1]
   exact ⟨rfl,h1.mk'⟩
  ·simp only [go_sem,d,e]
   exact ⟨by rw [Bool.true_and,Bool.false_and],h1.mk'⟩
 ·simp only [go_sem,d]
  exact ⟨by rw [Bool.false_and,Bool.false_and],Same.mk1⟩
theorem cache_fin {s:CS} (hw:WF s) (hfew:Few s) (h:Int):FinT (cacheMap (s.worth h)) (2 ^ 31-2):=by
 refine ⟨s.boxes.map fun b=>[b.id],?_,fun k x hx=>?_⟩
 ·rw [List.length_map]
  have h1:=hw.w.2.2
  unfold deads at h1
  unfold Few at hfew
  omega
 ·unfold cacheMap at hx
  split at hx
  ·rename_i i
   cases hi:s.worth h i with
   | none=>rw [hi] at hx; cases hx
   | some w =>
    obtain ⟨b,hb,e,_⟩:=(hw.w.1 h i w hi).2
    exact List.mem_map.2 ⟨b,hb,by rw [e]⟩
  ·cases hx
theorem times_fin {s:CS} (hw:WF s) (hfew:Few s):FinT (timesMap s.ends s.boots) (2 ^ 31-2):=by
 refine ⟨(s.boxes.map fun b=>[0,b.id])++(List.range 64).map fun (f:Nat)=>[1,(f:Int)],?_,fun k x hx=>?_⟩
 ·rw [List.length_append,List.length_map,List.length_map,List.length_range]
  have h1:=hw.w.2.2
  unfold deads at h1
  unfold Few at hfew
  omega
 ·unfold timesMap at hx
  rw [List.mem_append]
  split at hx
  ·rename_i kk i
   split at hx
   ·rename_i e
    subst e
    cases hi:s.ends i with
    | none=>rw [hi] at hx; cases hx
    | some t =>
     obtain ⟨b,hb,e⟩:=(hw.e i t hi).2
     exact .inl (List.mem_map.2 ⟨b,hb,by rw [e]⟩)
   ·split at hx
    ·rename_i e
     subst e
     cases hi:s.boots i with
     | none=>rw [hi] at hx; cases hx
     | some t =>
      obtain ⟨y,hy⟩:=(hw.o i t hi).2
      have:=(hw.f i y hy).1
      exact .inr (List.mem_map.2 ⟨i.toNat,by rw [List.mem_range]; omega,by rw [Int.toNat_of_nonneg this.1]⟩)
    ·cases hx
  ·cases hx
end Go.Ab

namespace Go.Ab
open Go Gh
variable {P : Program} {F : Nums}
theorem core_idle_c (G:Good P F) {c:Nat} {s:CS} {o:AV} {H:AH} (hw:WF s) (hfew:Few s) (hout:s.out.length<2147483648) (hc:CoreAt F c o s H) {b:Box} (hb:b∈s.boxes) {stop:Int} :
  ACalls P F.core_idle [.ptr (nC c) 0,.ptr (nBox c b.id) 0,i64 stop] H (fun _ H' => ∃ o',CStep F c o H o' (s.idle b stop) H'):=by
 refine fn_rule G.mixed G.core_idle rfl [] (fun hcl=>?_)
 have hcr:=hc.core
 have hbr:=hc.boxes.row b hb
 simp only [go_sem,hcr]
 refine EI_i (fun d=>?_) (fun d=>?_)
 ·have d:stop≤s.now:=by simpa using d
  simp only [go_sem]
  refine CA_s [] (core_kill_c G (H:=⟨H.f,H.k,[]⟩) hw hfew hout hc.mk' hb) ?_
  rintro _ H1 ⟨o',h1⟩ _ _
  simp only [go_sem]
  have e:s.idle b stop=s.kill b:=by unfold CS.idle; rw [if_pos d]
  rw [e]
  exact ⟨o',h1.of_mk.mk'⟩
 ·have d : ¬ stop≤s.now:=by simpa using d
  obtain ⟨x,hx,hxm⟩:=(hw.b.2 b hb).fn
  have hwf:=(hw.f b.fn x hx).2.1
  have hm:=hc.fns.map
  have hr:=hc.fns.row b.fn x hx
  have pm:=fns_ptr (c:=c) hx
  have hck:=hw.w.2.1 b.host
  have hdd:deads s.boxes s.next≤2147483000:=by unfold deads; unfold Few at hfew; omega
  have hmem:=hwf.mem
  have hcost:=hwf.cost
  have hoft:=hwf.often
  have p1:s.clock b.host*x.mem≤2147483000000000*4096:=Int.mul_le_mul (by omega) (by omega) (by omega) (by omega)
  have p2:x.often*x.cost≤1000*1000:=Int.mul_le_mul (by omega) (by omega) (by omega) (by omega)
  have w1:IntKind.u64.wrap x.often=x.often:=wrapu64 (by omega) (by omega)
  have w2:IntKind.u64.wrap x.cost=x.cost:=wrapu64 (by omega) (by omega)
  have w3:IntKind.u64.wrap x.mem=x.mem:=wrapu64 (by omega) (by omega)
  simp only [go_sem,hcr,hbr,hm,pm,hr.1,w1,w2,w3]
  refine CA_s [] (core_cache_c G (s:=s) (o:=o) (H:=⟨H.f,H.k,[]⟩) hcr (hc.caches.congr fun _ _=>rfl) (h:=b.host)) ?_
  rintro _ H1 ⟨⟨g,m,gen,gn,vn,rfl,hg,hO⟩,hf1⟩ _ _
  have hf1:Fra (cacT c) H H1:=hf1.of_mk
  have hc1:CoreAt F c o s H1:=hc.caches' hf1 (fun n h=>h) hO.shut
  have hbr1:=hc1.boxes.row b hb
  have hr1:=hc1.fns.row b.fn x hx
  simp only [go_sem,hbr1,hr1.1,w1,w2,w3,holdsOk_cons,gd_none,pureV,forall_const,fr_lkp]
  refine CA_s [] (warm_Set_c G (c:=c) (h:=b.host) (g:=g) (H:=⟨H1.f,H1.k,[]⟩) (cache_fin hw hfew b.host) (worth_WV hw hfew b.host) (hO.mk'.warm hg) (id:=b.id) (a:=x.often) (b:=x.cost) (d:=x.mem) hck.1 (by omega) (by omega) (by omega) (by omega) (by omega) (by omega)) ?_
  rintro _ H2 ⟨_,hw2,hf2⟩ _ _
  have hf2:Fra (warO F c b.host g) H1 H2:=hf2.of_mk
  have hwo:s.worthOf b=some (s.clock b.host*x.mem+x.often*x.cost,x.mem):=by unfold CS.worthOf; rw [hx]; rfl
  have hca2:CachesAt F c (ups2 s.worth b.host b.id (s.worthOf b)) s.clock H2:=hO.turn hg (hf2.mono fun _ h=>.inl h) (by rw [cacheMap_ups,hwo]; exact hw2) (fun k hk=>⟨ups2_ne hk,rfl⟩)
  have hc2:=hc1.caches' hf2 (fun n h=>cacO_t (.inl h)) hca2
  have hcr2:=hc2.core
  have hbr2:=hc2.boxes.row b hb
  have ht2:TimAt F c (timesMap s.ends s.boots) ⟨H2.f,H2.k,[]⟩:=(TimersAt.congr (H':=⟨H2.f,H2.k,[]⟩) hc2.timers (fun _ _=>rfl)).tim
  simp only [go_sem,hcr2,hbr2]
  refine CA_s [] (timer_Set_c G (c:=c) (H:=⟨H2.f,H2.k,[]⟩) (times_fin hw hfew) ht2) ?_
  rintro _ H3 ⟨ht3,hf3⟩ _ _
  have hf3:Fra (timO F c) H2 H3:=hf3.of_mk
  have hc3:=hc2.timers' hf3 (fun n h=>by rcases timO_t h with h | h | h; exact .inr (.inl h); exact .inr (.inr (.inl h)); exact .inr (.inr (.inr h))) (x:=ups s.ends b.id (some stop)) (y:=s.boots) (by
   refine TimAt.ers ?_
   rw [timesMap_ends]; exact ht3)
  simp only [go_sem]
  have e:s.idle b stop={ s with worth:=ups2 s.worth b.host b.id (s.worthOf b),ends:=ups s.ends b.id (some stop) }:=by unfold CS.idle; rw [if_neg d]
  rw [e]
  exact ⟨o,(CStep.in_ hc3 (Fra.trans (hf1.mono fun n h=>ct_in n (cac_ct n h)) (Fra.trans (hf2.mono fun n h=>ct_in n (war_ct n h)) (hf3.mono fun n h=>ct_in n (tim_ct n h))))).mk'⟩
end Go.Ab

namespace Go.Ab
open Go Gh
variable {P : Program} {F : Nums}
theorem findB_app {boxes:List Box} {b:Box} {i:Int} (hlt : ∀ x∈boxes,x.id<b.id):findB (boxes++[b]) i=if i=b.id then some b else findB boxes i:=by
 unfold findB
 rw [List.find?_append]
 by_cases e:i=b.id
 ·have:boxes.find? (fun x=>x.id==i)=none:=by
   rw [List.find?_eq_none]
   intro x hx
   have:=hlt x hx
   simp; omega
  rw [this,if_pos e]
  simp [e]
 ·rw [if_neg e]
  have:([b].find? fun x=>x.id==i)=none:=by simp; omega
  rw [this,Option.or_none]
theorem BoxesAt.add {c:Nat} {boxes:List Box} {next:Int} {H H':AH} (h:BoxesAt c boxes next H) {b:Box} (hid:b.id=next) (hlt : ∀ x∈boxes,x.id<next)
  (ho : ∀ n:Nm,(n.t=tg c 15∨n.t=tg c 16)→n≠nBoxes c→n≠nBox c next→H'.f n=H.f n) (hm:H'.f (nBoxes c)=some (.mp 1 (mset (ptrMap (nBox c) (findB boxes)) [next] (some (.ptr (nBox c next) 0)))))
  (hr:H'.f (nBox c next)=some (.row 8 (cs (boxC b)))):BoxesAt c (boxes++[b]) (next+1) H' where
 map:=by
  rw [hm]
  refine congrArg some (congrArg _ ?_)
  funext l
  unfold mset ptrMap
  cases l with
  | nil=>simp
  | cons a r =>
   cases r with
   | nil =>
    simp only [findB_app (fun x hx=>by rw [hid]; exact hlt x hx)]
    by_cases e:a=next
    ·subst e; simp [hid]
    ·simp [e,hid]
   | cons=>simp
 row x hx:=by
  rcases List.mem_append.1 hx with hx | hx
  ·have:=hlt x hx
   rw [ho _ (.inr rfl) (fun e=>by have:=congrArg Nm.t e; simp [tg_inj] at this) (fun e=>by have:=congrArg Nm.i e; simp at this; omega)]
   exact h.row x hx
  ·rw [List.mem_singleton] at hx
   subst hx
   rw [hid]; exact hr
 fresh id hid':=by
  rw [ho _ (.inr rfl) (fun e=>by have:=congrArg Nm.t e; simp [tg_inj] at this) (fun e=>by have:=congrArg Nm.i e; simp at this; omega)]
  exact h.fresh id (by omega)
theorem CoreAt.start' {c:Nat} {s:CS} {o o':AV} {out':List Cmd} {x:List Box} {next':Int} {H H':AH} (h:CoreAt F c o s H) (hf:Fra (fun n=>n=nC c∨n.t=tg c 15∨n.t=tg c 16∨isOut o n) H H')
  (hr:H'.f (nC c)=some (.row 16 (cs (coreC c { s with next:=next' } o')))) (hx:BoxesAt c x next' H') (ho:OutAt o' out' H'):CoreAt F c o' { s with next:=next',boxes:=x,out:=out' } H':=by
 have k : ∀ j,(j≠1∧j≠15∧j≠16) → ∀ n:Nm,n.t=tg c j→H'.f n=H.f n:=fun j hj n hn=>hf.at_ n (old_of (by rw [hn]; exact tg_ne0)) (fun hh=>by
  rcases hh with hh | hh | hh | hh
  ·rw [hh] at hn; simp only [tg_inj] at hn; omega
  ·rw [hn] at hh; simp only [tg_inj] at hh; omega
  ·rw [hn] at hh; simp only [tg_inj] at hh; omega
  ·rcases h.out with ⟨_,e⟩ | ⟨_,m,_,m0,_,e,_⟩
   ·obtain ⟨_,e'⟩:=hh; rw [e] at e'; cases e'
   ·obtain ⟨_,e'⟩:=hh; rw [e] at e'; cases e'; rw [m0] at hn; exact tg_ne0' hn)
 exact ⟨hr,by unfold QAt; rw [k 2 (by decide) _ rfl]; exact h.q,
  h.tok.congr fun n hn=>by rcases hn with e | e <;> exact k _ (by decide) n e,
  h.fns.congr fun n hn=>by rcases hn with e | e | e | e <;> exact k _ (by decide) n e,
  by unfold HostsAt; rw [k 9 (by decide) _ rfl]; exact h.hosts,
  h.caches.congr fun n hn=>by rcases hn with e | e | e | e | e <;> exact k _ (by decide) n e,
  hx,
  by unfold AheadAt; rw [k 17 (by decide) _ rfl]; exact h.ahead,
  h.timers.congr fun n hn=>by rcases hn with e | e | e | e <;> exact k _ (by decide) n e,
  ho⟩
theorem hTake_eq {s:CS} {h mem:Int}:s.hTake h mem={ s with hosts:=(s.hTake h mem).hosts }:=by unfold CS.hTake; split <;> rfl
theorem start_eq {s:CS} {f h:Int} {x:Fnc} (hx:s.fns f=some x):(s.start f h).1={ ({ s with hosts:=(s.hTake h x.mem).hosts }:CS) with next:=s.next+1,boxes:=s.boxes++[{ id:=s.next,fn:=f,host:=h,mem:=x.mem,since:=s.now }],out:=s.out++[⟨true,s.next,f,h⟩] }:=by
 have e:s.memOf f=x.mem:=by unfold CS.memOf; rw [hx]
 unfold CS.start
 simp only [e]
 rw [hTake_eq]
theorem core_start_c (G:Good P F) {c:Nat} {s:CS} {o:AV} {H:AH} (hw:WF s) (hfew:Few s) (hout:s.out.length<2147483648) (hc:CoreAt F c o s H) {f h:Int} {x:Fnc} (hx:s.fns f=some x) :
  ACalls P F.core_start [.ptr (nC c) 0,i64 f,i64 h] H (fun v H'=>v=.ptr (nBox c s.next) 0 ∧ ∃ o',CStep F c o H o' (s.start f h).1 H'):=by
 refine fn_rule G.mixed G.core_start rfl [] (fun hcl=>?_)
 have hcr:=hc.core
 have hm:=hc.fns.map
 have hr:=hc.fns.row f x hx
 have pm:=fns_ptr (c:=c) hx
 simp only [go_sem,hcr,hm,pm,hr.1]
 refine CA_s [] (host_Take_c G (n:=nHosts c) tg_ne0 s (h:=h) (mem:=x.mem) (H:=⟨H.f,H.k,[]⟩) hc.hosts hw.h) ?_
 rintro _ H1 ⟨hh1,hf1⟩ _ _
 have hf1:Fra (At (nHosts c)) H H1:=hf1.of_mk
 have hc1:=hc.hosts' (x:=(s.hTake h x.mem).hosts) hf1 (fun n h=>by rw [h]) hh1
 have hcr1:=hc1.core
 have hr1:=hc1.fns.row f x hx
 have hfr1:=hc1.boxes.fresh s.next (Int.le_refl _)
 simp only [go_sem,hcr1,hr1.1]
 refine CA_s [] (box_New_c G (n:=nBox c s.next) (H:=⟨H1.f,H1.k,[]⟩) (id:=s.next) (f:=f) (h:=h) (mem:=x.mem) (now:=s.now) tg_ne0 hfr1) ?_
 rintro _ H2 ⟨rfl,hb2,hf2⟩ _ _
 have hf2:Fra (At (nBox c s.next)) H1 H2:=hf2.of_mk
 have hcr2:H2.f (nC c)=_:=(hf2.at_ _ (old_of tg_ne0) (fun e=>by have:=congrArg Nm.t e; simp [tg_inj] at this)).trans hcr1
 have hm2:H2.f (nBoxes c)=_:=(hf2.at_ _ (old_of tg_ne0) (fun e=>by have:=congrArg Nm.t e; simp [tg_inj] at this)).trans hc1.boxes.map
 have n1:nC c≠nBoxes c:=fun e=>by have:=congrArg Nm.t e; simp [tg_inj] at this
 have n2:nBox c s.next≠nBoxes c:=fun e=>by have:=congrArg Nm.t e; simp [tg_inj] at this
 have n3:nBox c s.next≠nC c:=fun e=>by have:=congrArg Nm.t e; simp [tg_inj] at this
 have w1:IntKind.i64.wrap (s.next+1)=s.next+1:=by
  unfold Few at hfew
  have h1:=hw.w.2.2
  unfold deads at h1
  exact wrap64 (by omega) (by omega)
 have p32:(2 ^ 32<4)=False:=by simp
 have hk:H.k≤H2.k:=Int.le_trans hf1.k hf2.k
 have n4:(⟨0,H2.k,0⟩:Nm)≠⟨0,H2.k,1⟩:=tmp_ne (by decide)
 have n5 : ∀ q,nC c≠⟨0,H2.k,q⟩:=fun q e=>tg_ne0 (congrArg Nm.t e)
 have ho1:=hc.out
 rcases ho1 with ⟨e0,rfl⟩ | ⟨e0,m,g,m0,m1,rfl,m3,m4⟩
 ·simp only [go_sem,hcr2,hb2,hm2,n1,n1.symm,n2,n3,w1,p32,n4,n5,or_self,Nat.reduceDiv]
  have hfx:Fra (fun n=>n=nC c∨n.t=tg c 15∨n.t=tg c 16∨isOut (.nils) n) H1 _:=(Fra.set (Fra.set (Fra.set (Fra.set (Fra.set (Fra.mk' (s:=([]:List Nm)) (hf2.mono (fun n h=>.inr (.inr (.inl (by rw [h])))))) (n:=nC c) (o:=.row 16 (cs (coreC c { ({ s with hosts:=(s.hTake h x.mem).hosts }:CS) with next:=s.next+1 } (.nils)))) (.inl (.inl rfl))) (n:=nBoxes c) (o:=.mp 1 (mset (ptrMap (nBox c) (findB s.boxes)) [s.next] (some (AV.ptr (nBox c s.next) 0)))) (.inl (.inr (.inl rfl)))) (n:=⟨0,H2.k,0⟩) (o:=.row 4 (cs [.bool true,i64 s.next,i64 f,i64 h])) (.inr (nold hf2.k))) (n:=⟨0,H2.k,1⟩) (o:=.row 4 (cs [.bool true,i64 s.next,i64 f,i64 h])) (.inr (nold hf2.k))) (n:=nC c) (o:=.row 16 (cs (coreC c { ({ s with hosts:=(s.hTake h x.mem).hosts }:CS) with next:=s.next+1 } (.slice ⟨0,H2.k,1⟩ 4 0 1)))) (.inl (.inl rfl))).bmp (c:=2)
  have hbx : ∀ K:AH,(∀ n:Nm,(n.t=tg c 15∨n.t=tg c 16)→n≠nBoxes c→n≠nBox c s.next→K.f n=H1.f n)→_→_→BoxesAt c (s.boxes++[{ id:=s.next,fn:=f,host:=h,mem:=x.mem,since:=s.now }]) (s.next+1) K:=fun K a1 a2 a3=>hc1.boxes.add (b:={ id:=s.next,fn:=f,host:=h,mem:=x.mem,since:=s.now }) rfl (fun y hy=>(hw.b.2 y hy).id.2) a1 a2 a3
  refine ⟨.slice ⟨0,H2.k,1⟩ 4 0 1,?_,?_,?_⟩
  ·rw [start_eq hx]
   refine hc1.start' hfx (by simp only [go_sem]) (hbx _ ?_ ?_ ?_) (.inr ⟨by simp,⟨0,H2.k,1⟩,_,rfl,by show H2.k<H2.k+1; omega,by rw [e0]; rfl,by rw [e0]; simp only [go_sem,(n5 1).symm]; rfl,by
    rw [e0]
    intro i hi
    have:i=0∨i=1∨i=2∨i=3:=by simp at hi; omega
    rcases this with rfl | rfl | rfl | rfl <;> rfl⟩)
   ·intro n hn h1 h2
    have q1:n≠nC c:=fun e=>by rw [e] at hn; simp [tg_inj] at hn
    have q0 : ∀ i j,n≠⟨0,i,j⟩:=fun i j e=>by rw [e] at hn; rcases hn with hn | hn <;> exact tg_ne0' hn
    simp only [go_sem,q1,h1,q0]
    exact hf2.at_ n (old_of (by rcases hn with hn | hn <;> rw [hn] <;> exact tg_ne0)) h2
   ·have q0 : ∀ i j,nBoxes c≠⟨0,i,j⟩:=fun i j e=>tg_ne0 (congrArg Nm.t e)
    simp only [go_sem,n1.symm,q0]
   ·have q0 : ∀ i j,nBox c s.next≠⟨0,i,j⟩:=fun i j e=>tg_ne0 (congrArg Nm.t e)
    simp only [go_sem,n2,n3,q0]; exact hb2
  ·exact (hf1.mono fun n h=>.inl (by rw [h]; exact inCt_of (by decide) rfl)).trans (hfx.mono fun n h=>by
    rcases h with h | h | h | h
    ·exact .inl (by rw [h]; exact inCt_of (by decide) rfl)
    ·exact .inl (inCt_of (by decide) h)
    ·exact .inl (inCt_of (by decide) h)
    ·exact .inr h)
  ·rintro n ⟨l,h⟩
   cases h
   exact .inr ⟨rfl,hk⟩
 ·obtain ⟨mt,mi,mj⟩:=m
  simp only at m0 m1
  subst m0
  have n6:(⟨0,mi,mj⟩:Nm)≠⟨0,H2.k,0⟩:=tmp_nei (by omega)
  have n7:(⟨0,mi,mj⟩:Nm)≠⟨0,H2.k,1⟩:=tmp_nei (by omega)
  have n8:nC c≠⟨0,mi,mj⟩:=fun e=>tg_ne0 (congrArg Nm.t e)
  have n9:(⟨0,mi,mj⟩:Nm)≠nBoxes c:=fun e=>tg_ne0 (congrArg Nm.t e).symm
  have m3':H2.f ⟨0,mi,mj⟩=_:=(hf2.at_ _ (fun _=>by have:=hf1.k; show mi<H1.k; omega) (fun e=>tg_ne0 (congrArg Nm.t e).symm)).trans ((hf1.at_ _ (fun _=>m1) (fun e=>tg_ne0 (congrArg Nm.t e).symm)).trans m3)
  have l32:s.out.length≤2 ^ 32:=by omega
  simp only [go_sem,hcr2,hb2,hm2,n1,n1.symm,n2,n3,w1,p32,n4,n4.symm,n5,n6,n7,n8,n9,n6.symm,n7.symm,n8.symm,m3',l32,or_self,Nat.reduceDiv]
  have hfx:Fra (fun n=>n=nC c∨n.t=tg c 15∨n.t=tg c 16∨isOut (.slice ⟨0,mi,mj⟩ 4 0 s.out.length) n) H1 _:=(Fra.set (Fra.set (Fra.set (Fra.set (Fra.set (Fra.set (Fra.mk' (s:=([]:List Nm)) (hf2.mono (fun n h=>.inr (.inr (.inl (by rw [h])))))) (n:=nC c) (o:=.row 16 (cs (coreC c { ({ s with hosts:=(s.hTake h x.mem).hosts }:CS) with next:=s.next+1 } (.slice ⟨0,mi,mj⟩ 4 0 s.out.length)))) (.inl (.inl rfl))) (n:=nBoxes c) (o:=.mp 1 (mset (ptrMap (nBox c) (findB s.boxes)) [s.next] (some (AV.ptr (nBox c s.next) 0)))) (.inl (.inr (.inl rfl)))) (n:=⟨0,H2.k,0⟩) (o:=.row 4 (cs [.bool true,i64 s.next,i64 f,i64 h])) (.inr (nold hf2.k))) (n:=⟨0,mi,mj⟩) (o:=.dead) (.inl (.inr (.inr (.inr ⟨_,rfl⟩))))) (n:=⟨0,H2.k,1⟩) (o:=.row (s.out.length*4+4) fun i=>if i<s.out.length*4 then g i else [.bool true,i64 s.next,i64 f,i64 h].getD (i-s.out.length*4) .any) (.inr (nold hf2.k))) (n:=nC c) (o:=.row 16 (cs (coreC c { ({ s with hosts:=(s.hTake h x.mem).hosts }:CS) with next:=s.next+1 } (.slice ⟨0,H2.k,1⟩ 4 0 (s.out.length+1))))) (.inl (.inl rfl))).bmp (c:=2)
  have hbx : ∀ K:AH,(∀ n:Nm,(n.t=tg c 15∨n.t=tg c 16)→n≠nBoxes c→n≠nBox c s.next→K.f n=H1.f n)→_→_→BoxesAt c (s.boxes++[{ id:=s.next,fn:=f,host:=h,mem:=x.mem,since:=s.now }]) (s.next+1) K:=fun K a1 a2 a3=>hc1.boxes.add (b:={ id:=s.next,fn:=f,host:=h,mem:=x.mem,since:=s.now }) rfl (fun y hy=>(hw.b.2 y hy).id.2) a1 a2 a3
  refine ⟨.slice ⟨0,H2.k,1⟩ 4 0 (s.out.length+1),?_,?_,?_⟩
  ·rw [start_eq hx]
   refine hc1.start' hfx (by simp only [go_sem]) (hbx _ ?_ ?_ ?_) (.inr ⟨by simp,⟨0,H2.k,1⟩,_,rfl,by show H2.k<H2.k+1; omega,by rw [List.length_append]; rfl,by rw [List.length_append,List.length_singleton,Nat.succ_mul]; simp only [go_sem,(n5 1).symm],out_snoc m4⟩)
   ·intro n hn h1 h2
    have q1:n≠nC c:=fun e=>by rw [e] at hn; simp [tg_inj] at hn
    have q0 : ∀ i j,n≠⟨0,i,j⟩:=fun i j e=>by rw [e] at hn; rcases hn with hn | hn <;> exact tg_ne0' hn
    simp only [go_sem,q1,h1,q0]
    exact hf2.at_ n (old_of (by rcases hn with hn | hn <;> rw [hn] <;> exact tg_ne0)) h2
   ·have q0 : ∀ i j,nBoxes c≠⟨0,i,j⟩:=fun i j e=>tg_ne0 (congrArg Nm.t e)
    simp only [go_sem,n1.symm,q0]
   ·have q0 : ∀ i j,nBox c s.next≠⟨0,i,j⟩:=fun i j e=>tg_ne0 (congrArg Nm.t e)
    simp only [go_sem,n2,n3,q0]; exact hb2
  ·exact (hf1.mono fun n h=>.inl (by rw [h]; exact inCt_of (by decide) rfl)).trans (hfx.mono fun n h=>by
    rcases h with h | h | h | h
    ·exact .inl (by rw [h]; exact inCt_of (by decide) rfl)
    ·exact .inl (inCt_of (by decide) h)
    ·exact .inl (inCt_of (by decide) h)
    ·exact .inr h)
  ·rintro n ⟨l,h⟩
   cases h
   exact .inr ⟨rfl,hk⟩
end Go.Ab

namespace Go.Ab
open Go Gh
variable {P : Program} {F : Nums}
theorem ids_ok {s:CS} (hw:WF s) (hf:Few s):IdsOk s.boxes where
 s:=by rw [List.pairwise_map]; exact hw.b.1
 r b hb:=by have:=(hw.b.2 b hb).id; unfold Few at hf; omega
 l:=by have:=hw.w.2.2; unfold deads at this; unfold Few at hf; omega
def freeStep (o:Option Box) (b:Box):Option Box:=match o with
 | none=>some b
 | some x=>if b.since>x.since then some b else some x
def boxP (c:Nat) (o:Option Box):AV:=match o with
 | none=>.nilp
 | some b=>.ptr (nBox c b.id) 0
theorem foldl_take {α β:Type} (g:β→α→β) (z:β) (l:List α) (i:Nat) (h:i<l.length):(l.take (i+1)).foldl g z=g ((l.take i).foldl g z) l[i]:=by
 rw [List.take_add_one,List.foldl_append,List.getElem?_eq_getElem h]; rfl
theorem free_mem {l:List Box} {z:Option Box} {b:Box} (h:l.foldl freeStep z=some b):b∈l∨z=some b:=by
 induction l generalizing z with
 | nil=>exact .inr h
 | cons a r ih =>
  rcases ih h with h | h
  ·exact .inl (List.mem_cons_of_mem _ h)
  ·unfold freeStep at h
   split at h
   ·cases h; exact .inl (List.mem_cons_self ..)
   ·split at h
    ·cases h; exact .inl (List.mem_cons_self ..)
    ·exact .inr h
theorem core_free_c (E:Env P F) {c:Nat} {s:CS} {o:AV} {H:AH} (hw:WF s) (hfew:Few s) (hc:CoreAt F c o s H) {f:Int} :
  ACalls P F.core_free [.ptr (nC c) 0,i64 f] H (fun v H'=>v=boxP c (s.freeBox f)∧Same H H'):=by
 refine fn_rule E.g.mixed E.g.core_free rfl [] (fun hcl=>?_)
 have hi:=ids_ok hw hfew
 have hs0:Same H (bmp 1 ((⟨H.f,H.k,[]⟩:AH).set ⟨0,H.k,0⟩ (.row 1 (cs [i64 f])))):=(Same.mk1.tmp).bmp
 have hc0:=hc.same hs0
 simp only [go_sem]
 refine CA_s [] (core_where_c E (s:=s) (o:=o) (boxes:=s.boxes) (p:=fun b=>b.fn==f&&b.idle) hc0.core hc0.boxes.map hi ?_) ?_
 ·intro b hb H' hs'
  exact core_free_1_c E.g ((hc0.same hs').boxes.row b hb) (by rw [hs'.at_ _ (fun _=>by show H.k<H.k+1; omega)]; simp only [go_sem])
 rintro v H1 ⟨hv,hs1,_⟩ _ _
 have hs1:=hs0.trans hs1
 have hfb:s.freeBox f=(s.boxes.filter fun b=>b.fn==f&&b.idle).foldl freeStep none:=rfl
 rw [hfb]
 have hsub : ∀ b,b∈(s.boxes.filter fun b=>b.fn==f&&b.idle)→b∈s.boxes:=fun b hb=>(List.mem_filter.1 hb).1
 have hlen:(s.boxes.filter fun b=>b.fn==f&&b.idle).length≤s.boxes.length:=List.length_filter_le ..
 have hl:=hi.l
 generalize (s.boxes.filter fun b=>b.fn==f&&b.idle)=l at hv hsub hlen
 rcases hv with ⟨e0,rfl⟩ | ⟨m,cc,g,m1,m2,rfl,m3,m4,m5⟩
 ·have e0:l=[]:=by simpa using e0
  subst e0
  simp only [go_sem]
  refine C_loop (fun k l' H'=>Same H H'∧l'=[(0,.ptr (nC c) 0),(5,.nilp),(11,.nils),(12,i64 0),(13,i64 0)]) 0 ⟨hs1.mk',rfl⟩ ?_
  rintro k _ H2 ⟨h2,rfl⟩ _ _
  refine ⟨[],?_⟩
  simp only [go_sem]
  refine EI_i (fun d=>by simp at d) (fun d=>?_)
  simp only [go_sem]
  exact ⟨rfl,h2.mk'⟩
 ·rw [List.length_map] at m3 m5
  simp only [go_sem,List.length_map]
  refine C_loop (fun k l' H' => ∃ i:Nat,i+k=l.length∧Same H1 H'∧l'=[(0,.ptr (nC c) 0),(5,boxP c ((l.take i).foldl freeStep none)),(11,.slice m 1 0 (l.map Box.id).length),(12,i64 l.length),(13,i64 i)]) l.length ⟨0,by omega,Same.mk1,rfl⟩ ?_
  rintro k _ H2 ⟨i,hik,h2,rfl⟩ _ _
  refine ⟨[],?_⟩
  have hc2:=(hc.same hs1).same h2
  have hm:H2.f m=some (.row cc g):=h2.some (fun _=>m2) m4
  simp only [go_sem]
  refine EI_i (fun d=>?_) (fun d=>?_)
  ·have d:i<l.length:=by simp at d; omega
   have i0:(0:Int)≤(i:Int):=by omega
   have i1:(i:Int)<l.length:=by omega
   have i2:i<cc:=by omega
   have hbm:=hsub _ (List.getElem_mem d)
   have g5:g i=i64 (l[i]).id:=by rw [m5 i d,List.getD_eq_getElem?_getD,List.getElem?_map,List.getElem?_eq_getElem d]; rfl
   have pm:ptrMap (nBox c) (findB s.boxes) [(l[i]).id]=some (.ptr (nBox c (l[i]).id) 0):=by
    show (findB s.boxes (l[i]).id).map _=_
    rw [findB_mem hi hbm]; rfl
   have hr2:=hc2.boxes.row _ hbm
   have w1:=wrapS (i:=i) (by omega)
   have ft:=foldl_take freeStep none l i d
   cases hfo:(l.take i).foldl freeStep none with
   | none =>
    rw [hfo] at ft
    simp only [go_sem,List.length_map,i0,i1,i2,Int.toNat_natCast,Nat.mul_one,hm,g5,hc2.core,hc2.boxes.map,pm,boxP,w1]
    refine ⟨k-1,_,rfl,by omega,i+1,by omega,h2.mk',?_⟩
    rw [ft]; rfl
   | some b0 =>
    rw [hfo] at ft
    have hb0:b0∈s.boxes:=by
     rcases free_mem hfo with h | h
     ·exact hsub _ (List.mem_of_mem_take h)
     ·cases h
    have hr0:=hc2.boxes.row _ hb0
    simp only [go_sem,List.length_map,i0,i1,i2,Int.toNat_natCast,Nat.mul_one,hm,g5,hc2.core,hc2.boxes.map,pm,boxP,hr2,hr0]
    refine EI_i (fun e=>?_) (fun e=>?_)
    ·have e':(l[i]).since>b0.since:=by simpa using e
     simp only [go_sem,w1]
     refine ⟨k-1,_,rfl,by omega,i+1,by omega,h2.mk',?_⟩
     rw [ft]; unfold freeStep; simp only [e',if_true]
    ·have e' : ¬ (l[i]).since>b0.since:=by simpa using e
     simp only [go_sem,w1]
     refine ⟨k-1,_,rfl,by omega,i+1,by omega,h2.mk',?_⟩
     rw [ft]; unfold freeStep; simp only [e',if_false]
  ·have d:i=l.length:=by simp at d; omega
   subst d
   simp only [go_sem,List.take_length]
   exact (hs1.trans h2).mk'
end Go.Ab

namespace Go.Ab
open Go Gh
variable {P : Program} {F : Nums}
theorem CStep.tmp {H0:AH} {c:Nat} {o o':AV} {s s':CS} {H H':AH} (h:CStep F c o H o' s' H') (hc:OutAt o s.out H0) {i q:Int} {ob:AO} (hk:H0.k≤i) (hi:i<H.k) (ho:H.f ⟨0,i,q⟩=some ob):H'.f ⟨0,i,q⟩=some ob:=by
 rw [h.fra.at_ _ (fun _=>hi) (fun hs=>?_)]
 ·exact ho
 ·rcases hs with hs | hs
  ·have:(0:Nat) / 64=c+1:=hs
   omega
  ·rcases hc with ⟨_,e⟩ | ⟨_,m,_,_,m1,e,_⟩
   ·obtain ⟨_,e'⟩:=hs; rw [e] at e'; cases e'
   ·obtain ⟨_,e'⟩:=hs; rw [e] at e'; cases e'
    have:i<H0.k:=m1
    omega
theorem valMap_set {m:Int→Option Int} {id t:Int}:valMap i64 (ups m id (some t))=mset (valMap i64 m) [id] (some (i64 t)):=by
 funext l
 unfold mset valMap ups
 cases l with
 | nil=>simp
 | cons a r =>
  cases r with
  | nil =>
   by_cases e:a=id
   ·simp [e]
   ·simp [e]
  | cons=>simp
theorem core_ahead_c (E:Env P F) {c:Nat} {s:CS} {o:AV} {H:AH} (hw:WF s) (hfew:Few s) (hout:s.out.length<2147483648) (hc:CoreAt F c o s H) {f:Int} {x:Fnc} (hx:s.fns f=some x) :
  ACalls P F.core_ahead [.ptr (nC c) 0,i64 f] H (fun _ H' => ∃ o',CStep F c o H o' (s.bootAhead f) H'):=by
 refine fn_rule E.g.mixed E.g.core_ahead rfl [] (fun hcl=>?_)
 have hi:=ids_ok hw hfew
 have hs0:Same H (bmp 1 ((⟨H.f,H.k,[]⟩:AH).set ⟨0,H.k,0⟩ (.row 1 (cs [i64 f])))):=(Same.mk1.tmp).bmp
 have hc0:=hc.same hs0
 simp only [go_sem]
 refine CA_s [] (core_where_c E (s:=s) (o:=o) (boxes:=s.boxes) (p:=fun b=>b.fn==f) hc0.core hc0.boxes.map hi ?_) ?_
 ·intro b hb H' hs'
  exact core_ahead_1_c E.g ((hc0.same hs').boxes.row b hb) (by rw [hs'.at_ _ (fun _=>by show H.k<H.k+1; omega)]; simp only [go_sem])
 rintro v H1 ⟨hv,hs1,_⟩ hk1 _
 have hk1:H.k+1≤H1.k:=hk1
 have hb1:H1.f ⟨0,H.k,0⟩=some (.row 1 (cs [i64 f])):=by rw [hs1.at_ _ (fun _=>by show H.k<H.k+1; omega)]; simp only [go_sem]
 have hs1:=hs0.trans hs1
 have hc1:=hc.same hs1
 have hcr1:=hc1.core
 have hm1:=hc1.fns.map
 have hr1:=hc1.fns.row f x hx
 have pm:=fns_ptr (c:=c) hx
 simp only [go_sem,hcr1,hb1,hm1,pm,hr1.1]
 refine CA_s [] (host_Fit_c E.g (n:=nHosts c) tg_ne0 s (mem:=x.mem) (H:=⟨H1.f,H1.k,[]⟩) hc1.hosts hw.h) ?_
 rintro _ H2 ⟨⟨w,rfl,hwf⟩,hs2⟩ _ _
 have hs2:Same H1 H2:=hs2.of_mk
 have hb2:=hs2.some (fun _=>by show H.k<H1.k; omega) hb1
 have hs2':=hs1.trans hs2
 have hc2:=hc.same hs2'
 have hcr2:=hc2.core
 have hm2:=hc2.fns.map
 have hr2:=hc2.fns.row f x hx
 have hlen:lenV v=some (.int .i64 (s.boxes.filter fun b=>b.fn==f).length):=by
  rcases hv with ⟨e,rfl⟩ | ⟨m,cc,g,_,_,rfl,_⟩
  ·have:(s.boxes.filter fun b=>b.fn==f)=[]:=by simpa using e
   rw [this]; rfl
  ·simp only [lenV,List.length_map]
 have hba0:(s.boxes.filter fun b=>b.fn==f).length>0→s.bootAhead f=s:=fun h=>by unfold CS.bootAhead CS.pick; rw [if_pos h]
 have hba1 : ¬ (s.boxes.filter fun b=>b.fn==f).length>0→s.fit x.mem=none→s.bootAhead f=s:=fun h hn=>by unfold CS.bootAhead CS.pick; rw [if_neg h,hx]; simp only [hn]
 have hba2 : ¬ (s.boxes.filter fun b=>b.fn==f).length>0→s.fit x.mem=some w→s.bootAhead f={ (s.start f w).1 with ahead:=ups (s.start f w).1.ahead s.next (some x.til) }:=fun h hn=>by unfold CS.bootAhead CS.pick; rw [if_neg h,hx]; simp only [hn]; rfl
 have same:CStep F c o H o s ⟨H2.f,H2.k,[]⟩:=(CStep.in_ hc2 hs2'.fra).mk'
 simp only [go_sem]
 rcases hv with ⟨e,rfl⟩ | ⟨m,cc,g,_,_,rfl,_⟩
 ·have e1:(s.boxes.filter fun b=>b.fn==f)=[]:=by simpa using e
  have hd : ¬ (s.boxes.filter fun b=>b.fn==f).length>0:=by rw [e1]; simp
  simp only [go_sem]
  refine EI_i (fun d=>by simp at d) (fun d=>?_)
  simp only [go_sem]
  cases hft:s.fit x.mem with
  | none =>
   simp only [go_sem,Option.isSome_none]
   rw [hba1 hd hft]
   exact ⟨o,same⟩
  | some w' =>
   have:=hwf w' hft
   subst this
   simp only [go_sem,Option.isSome_some,hcr2,hb2,hm2,pm,hr2.1]
   refine CA_s [] (core_start_c E.g (H:=⟨H2.f,H2.k,[]⟩) (f:=f) (h:=w) hw hfew hout hc2.mk' hx) ?_
   rintro _ H3 ⟨rfl,o',h3⟩ _ _
   have h3:CStep F c o H2 o' (s.start f w).1 H3:=h3.of_mk
   have hst:=start_eq (h:=w) hx
   have hba:=hba2 hd hft
   rw [hst] at h3 hba
   have hc3:=h3.at_
   have hcr3:=hc3.core
   have hm3:=hc3.fns.map
   have hr3:=hc3.fns.row f x hx
   have hb3:=h3.tmp hc.out (Int.le_refl _) (show H.k<H2.k by have:=hs2.k; omega) hb2
   have hbx:=hc3.boxes.row { id:=s.next,fn:=f,host:=w,mem:=x.mem,since:=s.now } (List.mem_append.2 (.inr (List.mem_singleton.2 rfl)))
   have ha3:H3.f (nAhead c)=_:=hc3.ahead
   simp only [go_sem,hcr3,hm3,pm,hr3.1,hb3,hbx,ha3,holdsOk_cons,gd_none,pureV,forall_const,fr_lkp,and_self]
   rw [hba]
   have hfa:Fra (At (nAhead c)) H3 ((⟨H3.f,H3.k,[]⟩:AH).set (nAhead c) (.mp 1 (mset (valMap i64 s.ahead) [s.next] (some (i64 x.til))))):=Fra.mk1.s1
   have hc4:=hc3.ahead' (x:=ups s.ahead s.next (some x.til)) hfa (fun n h=>by rw [h]) (by unfold AheadAt; simp only [go_sem]; rw [valMap_set])
   exact ⟨o',(CStep.in_ hc2 hs2'.fra).trans (h3.trans (CStep.in_ hc4 (hfa.mono fun n h=>by rw [h]; exact inCt_of (by decide) rfl)))⟩
 ·simp only [go_sem,List.length_map]
  refine EI_i (fun d=>?_) (fun d=>?_)
  ·have d:(s.boxes.filter fun b=>b.fn==f).length>0:=by simp at d ⊢; exact d
   simp only [go_sem]
   rw [hba0 d]
   exact ⟨o,same⟩
  have hd : ¬ (s.boxes.filter fun b=>b.fn==f).length>0:=by simp at d ⊢; exact d
  simp only [go_sem]
  cases hft:s.fit x.mem with
  | none =>
   simp only [go_sem,Option.isSome_none]
   rw [hba1 hd hft]
   exact ⟨o,same⟩
  | some w' =>
   have:=hwf w' hft
   subst this
   simp only [go_sem,Option.isSome_some,hcr2,hb2,hm2,pm,hr2.1]
   refine CA_s [] (core_start_c E.g (H:=⟨H2.f,H2.k,[]⟩) (f:=f) (h:=w) hw hfew hout hc2.mk' hx) ?_
   rintro _ H3 ⟨rfl,o',h3⟩ _ _
   have h3:CStep F c o H2 o' (s.start f w).1 H3:=h3.of_mk
   have hst:=start_eq (h:=w) hx
   have hba:=hba2 hd hft
   rw [hst] at h3 hba
   have hc3:=h3.at_
   have hcr3:=hc3.core
   have hm3:=hc3.fns.map
   have hr3:=hc3.fns.row f x hx
   have hb3:=h3.tmp hc.out (Int.le_refl _) (show H.k<H2.k by have:=hs2.k; omega) hb2
   have hbx:=hc3.boxes.row { id:=s.next,fn:=f,host:=w,mem:=x.mem,since:=s.now } (List.mem_append.2 (.inr (List.mem_singleton.2 rfl)))
   have ha3:H3.f (nAhead c)=_:=hc3.ahead
   simp only [go_sem,hcr3,hm3,pm,hr3.1,hb3,hbx,ha3,holdsOk_cons,gd_none,pureV,forall_const,fr_lkp,and_self]
   rw [hba]
   have hfa:Fra (At (nAhead c)) H3 ((⟨H3.f,H3.k,[]⟩:AH).set (nAhead c) (.mp 1 (mset (valMap i64 s.ahead) [s.next] (some (i64 x.til))))):=Fra.mk1.s1
   have hc4:=hc3.ahead' (x:=ups s.ahead s.next (some x.til)) hfa (fun n h=>by rw [h]) (by unfold AheadAt; simp only [go_sem]; rw [valMap_set])
   exact ⟨o',(CStep.in_ hc2 hs2'.fra).trans (h3.trans (CStep.in_ hc4 (hfa.mono fun n h=>by rw [h]; exact inCt_of (by decide) rfl)))⟩
end Go.Ab

namespace Go.Ab
open Go Gh
variable {P : Program} {F : Nums}
theorem CoreAt.row' {c:Nat} {s:CS} {o:AV} {a:Int} {g:Nat→Int} {H H':AH} (h:CoreAt F c o s H) (hf:Fra (At (nC c)) H H') (hr:H'.f (nC c)=some (.row 16 (cs (coreC c { s with now:=a,ans:=g } o)))):CoreAt F c o { s with now:=a,ans:=g } H':=by
 have k : ∀ j,j≠1 → ∀ n:Nm,n.t=tg c j→H'.f n=H.f n:=fun j hj n hn=>hf.at_ n (old_of (by rw [hn]; exact tg_ne0)) (fun hh=>by
  rw [hh] at hn; simp only [tg_inj] at hn; omega)
 exact ⟨hr,by unfold QAt; rw [k 2 (by decide) _ rfl]; exact h.q,
  h.tok.congr fun n hn=>by rcases hn with e | e <;> exact k _ (by decide) n e,
  h.fns.congr fun n hn=>by rcases hn with e | e | e | e <;> exact k _ (by decide) n e,
  by unfold HostsAt; rw [k 9 (by decide) _ rfl]; exact h.hosts,
  h.caches.congr fun n hn=>by rcases hn with e | e | e | e | e <;> exact k _ (by decide) n e,
  h.boxes.congr fun n hn=>by rcases hn with e | e <;> exact k _ (by decide) n e,
  by unfold AheadAt; rw [k 17 (by decide) _ rfl]; exact h.ahead,
  h.timers.congr fun n hn=>by rcases hn with e | e | e | e <;> exact k _ (by decide) n e,
  h.out.congr hf.k (out_keep h.out hf fun n hn h0=>by rw [hn] at h0; exact tg_ne0 h0)⟩
theorem Keys_fn_c (E:Env P F) {n:Nm} {H:AH} :
  ACalls P F.Keys_fn [.map n] H (fun v H'=>v=.fn F.Keys_fn_1 [.ptr ⟨0,H.k,0⟩ 0]∧H'.f ⟨0,H.k,0⟩=some (.row 1 (cs [.map n]))∧H.k+1≤H'.k∧Same H H'):=by
 refine fn_rule E.g.mixed E.g.Keys_fn rfl [] (fun hcl=>?_)
 simp only [go_sem]
 exact ⟨by show H.k+1≤H.k+1; omega,(Same.mk1.tmp).bmp⟩
def fnIds (s:CS):List Int:=((List.range 64).map fun (i:Nat)=>(i:Int)).filter fun f=>(s.fns f).isSome
theorem fnIds_mem {s:CS} (hw:WF s) {f:Int}:s.fns f≠none↔f∈fnIds s:=by
 unfold fnIds
 rw [List.mem_filter,List.mem_map]
 constructor
 ·intro h
  obtain ⟨x,hx⟩:=Option.ne_none_iff_exists'.1 h
  have:=(hw.f f x hx).1
  exact ⟨⟨f.toNat,by rw [List.mem_range]; omega,by omega⟩,by rw [hx]; rfl⟩
 ·rintro ⟨_,h⟩ e
  rw [e] at h; cases h
theorem fnIds_sorted {s:CS}:(fnIds s).Pairwise (· < ·):=by
 unfold fnIds
 refine List.Pairwise.filter _ ?_
 rw [List.pairwise_map]
 exact List.pairwise_lt_range.imp fun h=>by omega
theorem fnIds_bd {s:CS} : ∀ f∈fnIds s,0≤f∧f<64:=by
 intro f hf
 unfold fnIds at hf
 obtain ⟨h,_⟩:=List.mem_filter.1 hf
 obtain ⟨i,hi,rfl⟩:=List.mem_map.1 h
 rw [List.mem_range] at hi
 omega
end Go.Ab

namespace Gh
open CS
section
variable {s : CS}
theorem sums_nn (h : ∀ i,0≤(s.qf i).busy) (a:Int) : ∀ n,0≤(s.sums a n).2.1
 | 0=>by simp [CS.sums]
 | n+1=>by
  have ih:=sums_nn h a n
  have:=h n
  simp only [CS.sums]
  split
  ·exact ih
  ·simp only; omega
theorem sums_ge (h : ∀ i,0≤(s.qf i).busy) {a:Int} {i:Nat} (ht:(s.qf i).there=true) (ha:(s.qf i).account=a) : ∀ n,i<n→(s.qf i).busy≤(s.sums a n).2.1
 | 0,hi=>by omega
 | n+1,hi=>by
  have hn:=sums_nn h a n
  have hb:=h n
  simp only [CS.sums]
  by_cases e:i=n
  ·subst e
   rw [if_neg (by simp [ht,ha])]
   simp only; omega
  ·have ih:=sums_ge h ht ha n (by omega)
   split
   ·exact ih
   ·simp only; omega
theorem WF.qBegin (h:WF s) (f:Int):WF (s.qBegin f):=by
 unfold CS.qBegin
 split
 ·rename_i ha
  have hb:=fun i=>(h.q.lq i).2.2.1
  have hl:=h.q.la
  unfold CS.ask at ha
  split at ha
  ·cases ha
  ·rename_i hk
   simp only [Bool.not_eq_true,Bool.not_eq_false'] at hk
   have hk':s.known f=true:=by simpa using hk
   unfold CS.known at hk'
   simp only [Bool.and_eq_true,decide_eq_true_eq] at hk'
   have hge:=sums_ge hb (a:=(s.qf f.toNat).account) hk'.2 rfl 64 (by omega)
   have hlim:=(hl (s.qf f.toNat).account.toNat).2
   simp only at ha
   split at ha
   ·cases ha
   ·split at ha
    ·cases ha
    ·rename_i h2
     have:=hb f.toNat
     exact h.setBusy _ _ (by omega)
 ·exact h
theorem sumN_up {f:Nat→Int} {i:Nat} {v:Int} : ∀ {n:Nat},i<n→sumN (upn f i v) n=sumN f n-f i+v
 | 0,h=>by omega
 | n+1,h=>by
  by_cases e:i=n
  ·subst e
   have : ∀ m,m≤i→sumN (upn f i v) m=sumN f m:=by
    intro m
    induction m with
    | zero=>intro _; rfl
    | succ m ih =>
     intro hm
     simp only [sumN]
     rw [ih (by omega)]
     have:upn f i v m=f m:=by unfold upn; rw [if_neg (by omega)]
     rw [this]
   simp only [sumN]
   rw [this i (Nat.le_refl _)]
   have:upn f i v i=v:=by unfold upn; rw [if_pos rfl]
   rw [this]; omega
  ·simp only [sumN]
   rw [sumN_up (show i<n by omega)]
   have:upn f i v n=f n:=by unfold upn; rw [if_neg (by omega)]
   rw [this]; omega
theorem sumN_half {f:Nat→Int} (h : ∀ i,0≤f i) : ∀ n,0≤sumN (fun i=>f i / 2) n∧2*sumN (fun i=>f i / 2) n≤sumN f n
 | 0=>by simp [sumN]
 | n+1=>by
  have:=sumN_half h n
  have:=h n
  simp only [sumN]
  omega
theorem WHist.halve {h:Histo} (hb : ∀ i,0≤h.bins i) (ho:0≤h.over) (hs:h.inn=sumN h.bins 240) (ha:h.inn+h.over<8192):WHist h.halve:=by
 have h1:=sumN_half hb 240
 refine ⟨fun i=>?_,rfl,?_,?_⟩
 ·show 0≤h.bins i / 2
  have:=hb i; omega
 ·show 0≤h.over / 2; omega
 ·show sumN (fun i=>h.bins i / 2) 240+h.over / 2<4096
  rw [← hs] at h1
  generalize sumN (fun i=>h.bins i / 2) 240=z at h1 ⊢
  omega
theorem WHist.add {h:Histo} (w:WHist h) (x:Int):WHist (h.add x):=by
 unfold Histo.add
 split
 ·exact w
 ·rename_i hx
  have hall:=w.all
  have hov:=w.over
  by_cases h1:x<240
  ·simp only [h1,if_true]
   have hi:x.toNat<240:=by omega
   have hb' : ∀ i,0≤upn h.bins x.toNat (h.bins x.toNat+1) i:=fun i=>by
    unfold upn; have:=w.b i; have:=w.b x.toNat; split <;> omega
   have hs':h.inn+1=sumN (upn h.bins x.toNat (h.bins x.toNat+1)) 240:=by
    rw [sumN_up hi,w.inn]; omega
   split
   ·exact WHist.halve (h:={ h with bins:=upn h.bins x.toNat (h.bins x.toNat+1),inn:=h.inn+1 }) hb' hov hs' (by show h.inn+1+h.over<8192; omega)
   ·rename_i h2
    exact ⟨hb',hs',hov,by show h.inn+1+h.over<4096; omega⟩
  ·simp only [h1,if_false]
   split
   ·exact WHist.halve (h:={ h with over:=h.over+1 }) w.b (by show 0≤h.over+1; omega) w.inn (by show h.inn+(h.over+1)<8192; omega)
   ·rename_i h2
    exact ⟨w.b,w.inn,by show 0≤h.over+1; omega,by show h.inn+(h.over+1)<4096; omega⟩
theorem WRing.push {r:Ring} (w:WRing r) {x:Int} (hx:0≤x∧x≤maxTime):WRing (r.push x):=by
 have h:=w.n
 unfold Ring.push
 refine ⟨?_,fun i=>?_⟩
 ·simp only; split <;> omega
 ·simp only [upn]; split
  ·exact hx
  ·exact w.l i
theorem qBegin_eq {f:Int}:s.qBegin f={ s with qf:=(s.qBegin f).qf }:=by unfold CS.qBegin; split <;> rfl
theorem WF.unboot (h:WF s) (f:Int):WF { s with boots:=ups s.boots f none } :=
 { h with
  o:=fun k t ht=>by
   have ht:ups s.boots f none k=some t:=ht
   unfold ups at ht
   split at ht
   ·cases ht
   ·exact h.o k t ht }
def beginF (s:CS) (f:Int) (x:Fnc):Fnc :=
 let x1:=if s.busy f=0∧x.last ≥ 0 then { x with h:=x.h.add (s.now-x.last),r:=x.r.push (s.now-x.last) } else x
 { x1 with often:=min (x1.often+1) 1000 }
theorem WFn.begin {x:Fnc} (w:WFn x s.now) (hn:s.now≤maxTime) (f:Int):WFn (beginF s f x) s.now∧(beginF s f x).mem=x.mem∧(beginF s f x).account=x.account:=by
 have ho:=w.often
 unfold beginF
 split
 ·rename_i hc
  have hl:=w.last
  refine ⟨?_,rfl,rfl⟩
  exact { w with often:=by show 0≤min (x.often+1) 1000∧min (x.often+1) 1000≤1000; omega,h:=w.h.add _,r:=w.r.push ⟨by omega,by omega⟩ }
 ·refine ⟨?_,rfl,rfl⟩
  exact { w with often:=by show 0≤min (x.often+1) 1000∧min (x.often+1) 1000≤1000; omega }
def beginB (s:CS) (b:Box):Box:=if b.st=1 then { b with st:=2,since:=s.now } else if b.st=0 ∧ !b.bound then { b with bound:=true } else b
theorem WF.begin (h:WF s) {b:Box} (hb:b∈s.boxes) (f:Int):WF (s.begin f b):=by
 have h1:WF (s.setFn f (beginF s f)):=h.setFn fun x hx=>WFn.begin (h.f f x hx).2.1 h.now.2 f
 have h2:=h1.unboot f
 have h3:=h2.qBegin f
 have h4:=h3.take b
 have hbx:(({ (s.setFn f (beginF s f)) with boots:=ups (s.setFn f (beginF s f)).boots f none }:CS).qBegin f).boxes=s.boxes:=by rw [qBegin_eq]; rfl
 have hnow:(({ (s.setFn f (beginF s f)) with boots:=ups (s.setFn f (beginF s f)).boots f none }:CS).qBegin f).now=s.now:=by rw [qBegin_eq]; rfl
 have hwb:=h.b.2 b hb
 have hst:=hwb.st
 have hsi:=hwb.since
 have hnw:=h.now
 refine h4.setBox (b:=beginB s b) (a:=b) (by show b∈(CS.qBegin _ f).boxes; rw [hbx]; exact hb) ?_ ?_ ?_ ?_ ?_ ?_
 all_goals unfold beginB
 ·repeat' (first | rfl | split)
 ·repeat' (first | rfl | split)
 ·repeat' (first | rfl | split)
 ·repeat' (first | rfl | split)
 ·split
  ·simp
  ·split <;> exact hst
 ·have e:((({ (s.setFn f (beginF s f)) with boots:=ups (s.setFn f (beginF s f)).boots f none }:CS).qBegin f).take b).now=s.now:=hnow
  rw [e]
  split
  ·exact ⟨hnw.1,Int.le_refl _⟩
  ·split <;> exact hsi
end
end Gh

namespace Go.Ab
open Go Gh
variable {P : Program} {F : Nums}
def RT (P:Program) (b:AC) (Q:Qs):Fr→AH→Prop:=fun t H=>vc P b Q t H
theorem W_cut {a b:AC} {Q:Qs} {l:List (Nat × AV)} {H:AH} {u:T (AC.seq a b,Q,l,H)} (h:W P a ⟨RT P b Q,Q.ext,Q.ret⟩ l H ⟨⟩):W P (.seq a b) Q l H u:=h
theorem W_cut0 {a b:AC} {Q:Qs} {l:List (Nat × AV)} {H:AH} (h:W P a ⟨RT P b Q,Q.ext,Q.ret⟩ l H ⟨⟩):vc P (.seq a b) Q (fr l) H:=h
theorem RT_i {b:AC} {Q:Qs} {l:List (Nat × AV)} {H:AH} (h:W P b Q l H ⟨⟩):RT P b Q (fr l) H:=h
def AC.tl:AC→AC
 | .seq _ b=>b
 | a=>a
theorem AC.tl_seq {a b:AC}:AC.tl (.seq a b)=b:=rfl
theorem qBegin_eq {s:CS} {f:Int}:s.qBegin f={ s with acc:=(s.qBegin f).acc,qf:=(s.qBegin f).qf }:=by unfold CS.qBegin; split <;> rfl
theorem in_at {c j:Nat} {n m:Nm} (hj:j<64) (hm:m.t=tg c j) (h:At m n):inCt c n:=by rw [h]; exact inCt_of hj hm
theorem Box.called_eq {b:Box} {s:CS}:Box.called b s.now=beginB s b:=by
 unfold Box.called beginB
 repeat' split
 all_goals first | rfl | (exfalso; simp_all) | (simp_all)
theorem timers_open {c:Nat} {s:CS} {o:AV} {H:AH} {l:List Nm} (h:CoreAt F c o s H):TimAt F c (timesMap s.ends s.boots) ⟨H.f,H.k,l⟩:=(TimersAt.congr (H':=⟨H.f,H.k,l⟩) h.timers (fun _ _=>rfl)).tim
theorem CoreAt.timX {c:Nat} {s:CS} {o:AV} {H H':AH} {x y:Int→Option Int} (h:CoreAt F c o s H) (hf:Fra (timO F c) H H') (ht:TimAt F c (timesMap x y) H'):CoreAt F c o { s with ends:=x,boots:=y } H' :=
 h.timers' hf (fun n h=>by rcases timO_t h with h | h | h; exact .inr (.inl h); exact .inr (.inr (.inl h)); exact .inr (.inr (.inr h))) (x:=x) (y:=y) ht.ers
theorem core_take_w (G:Good P F) {c:Nat} {s:CS} {o:AV} {H:AH} (hw:WF s) (hfew:Few s) (hc:CoreAt F c o s H) {b:Box} (hb:b∈s.boxes) :
  ACalls P F.core_take [.ptr (nC c) 0,.ptr (nBox c b.id) 0] H (fun _ H'=>CoreAt F c o (s.take b) H'∧Fra (ctT c) H H'):=core_take_c G (s:=s) (k:=s.clock) hw hfew hc hb
theorem core_gone_w (G:Good P F) {c:Nat} {s:CS} {o:AV} {H:AH} (hw:WF s) (hfew:Few s) (hc:CoreAt F c o s H) {b:Box} (hb:b∈s.boxes) :
  ACalls P F.core_gone [.ptr (nC c) 0,.ptr (nBox c b.id) 0] H (fun _ H'=>CoreAt F c o (s.gone b) H'∧H'.f (nBox c b.id)=some (.row 8 (cs (boxC (Ab.Box.killed b s.now))))∧Fra (inCt c) H H'):=core_gone_c G (s:=s) (k:=s.clock) hw hfew hc hb
theorem core_kill_w (G:Good P F) {c:Nat} {s:CS} {o:AV} {H:AH} (hw:WF s) (hfew:Few s) (hout:s.out.length<2147483648) (hc:CoreAt F c o s H) {b:Box} (hb:b∈s.boxes) :
  ACalls P F.core_kill [.ptr (nC c) 0,.ptr (nBox c b.id) 0] H (fun _ H' => ∃ o',CStep F c o H o' (s.kill b) H'):=core_kill_c G (s:=s) (k:=s.clock) hw hfew hout hc hb
theorem core_begin_c (G:Good P F) {c:Nat} {s:CS} {o:AV} {H:AH} (hw:WF s) (hfew:Few s) (hc:CoreAt F c o s H) {b:Box} (hb:b∈s.boxes) {f:Int} {x:Fnc} (hx:s.fns f=some x) :
  ACalls P F.core_begin [.ptr (nC c) 0,i64 f,.ptr (nBox c b.id) 0] H (fun _ H'=>CoreAt F c o (s.begin f b) H'∧Fra (inCt c) H H'):=by
 refine fn_rule G.mixed G.core_begin rfl [] (fun hcl=>?_)
 have hcr:=hc.core
 have hm:=hc.fns.map
 have hr:=hc.fns.row f x hx
 have pm:=fns_ptr (c:=c) hx
 have hwf:=(hw.f f x hx).2.1
 have hnw:=hw.now
 have hlast:=hwf.last
 have hoft:=hwf.often
 have n8:nHis c f≠nFn c f:=fun e=>by have:=congrArg Nm.t e; simp [tg_inj] at this
 have n9:nRing c f≠nFn c f:=fun e=>by have:=congrArg Nm.t e; simp [tg_inj] at this
 have n6:nC c≠nFn c f:=fun e=>by have:=congrArg Nm.t e; simp [tg_inj] at this
 have tail : ∀ (x1:Fnc) (H1:AH) (r:List (Nat × AV)),({ x1 with often:=min (x1.often+1) 1000 }:Fnc)=beginF s f x→0≤x1.often∧x1.often≤1000→CoreAt F c o { s with fns:=ups s.fns f (some x1) } H1→Fra (inCt c) H H1 →
   RT P (c_core_begin F).ac.tl.tl ⟨endQ [] (fun _ H'=>CoreAt F c o (s.begin f b) H'∧Fra (inCt c) H H'),fun _ _ _=>False,endQ [] (fun _ H'=>CoreAt F c o (s.begin f b) H'∧Fra (inCt c) H H')⟩
    (fr ((0,.ptr (nC c) 0)::(1,i64 f)::(2,.ptr (nBox c b.id) 0)::(6,.ptr (nFn c f) 0)::r)) H1:=by
  intro x1 H1 r he ho1 hc1 hf1
  simp only [c_core_begin,AC.tl_seq]
  refine RT_i ?_
  have hx1:ups s.fns f (some x1) f=some x1:=by unfold ups; simp
  have hr1:=hc1.fns.row f x1 hx1
  have hcr1:=hc1.core
  have w1:IntKind.i64.wrap (x1.often+1)=x1.often+1:=wrap64 (by omega) (by omega)
  simp only [go_sem,hr1.1,hcr1,n6,w1]
  have hff:Fra (At (nFn c f)) H1 (H1.set (nFn c f) (.row 9 (cs (fnC c f { x1 with often:=min (x1.often+1) 1000 })))):=(Fra.refl _ _).s1
  have hc2:=hc1.fns' (x:=ups s.fns f (some (beginF s f x))) hff (fun n h=>by rw [h]; exact .inr (.inl rfl)) (by
   have:=FnsAt.set hc1.fns (y:={ x1 with often:=min (x1.often+1) 1000 }) hx1 (hff.mono fun n h=>.inl h) (by simp only [go_sem]) (by simp only [go_sem,n8]; exact hr1.2.1) (by simp only [go_sem,n9]; exact hr1.2.2)
   have e : ∀ y,ups (ups s.fns f (some x1)) f (some y)=ups s.fns f (some y):=by intro y; funext k; unfold ups; split <;> rfl
   rw [e] at this
   rw [← he]; exact this)
  have hset:s.setFn f (beginF s f)={ s with fns:=ups s.fns f (some (beginF s f x)) }:=by unfold CS.setFn; rw [hx]; rfl
  refine CA_s [] (timer_Drop_c G (c:=c) (H:=H1.set (nFn c f) (.row 9 (cs (fnC c f { x1 with often:=min (x1.often+1) 1000 })))) hc2.timers.tim) ?_
  rintro _ H3 ⟨_,ht3,hf3⟩ _ _
  have hc3:=hc2.timX (x:=s.ends) (y:=ups s.boots f none) hf3 (by rw [timesMap_boots]; exact ht3)
  have hcr3:=hc3.core
  have hw2:WF (s.setFn f (beginF s f)):=hw.setFn fun x hx=>WFn.begin (hw.f f x hx).2.1 hw.now.2 f
  have hw3:=hw2.unboot f
  simp only [go_sem,hcr3]
  refine CA_s [] (quota_Begin_c G (n:=nQ c) tg_ne0 { s with fns:=ups s.fns f (some (beginF s f x)),ends:=s.ends,boots:=ups s.boots f none } (f:=f) (H:=⟨H3.f,H3.k,[]⟩) hc3.q (by rw [hset] at hw3; exact hw3.q)) ?_
  rintro _ H4 ⟨hq4,hf4⟩ _ _
  have hf4:Fra (At (nQ c)) H3 H4:=hf4.of_mk
  have hc4:=hc3.q' hf4 (fun n h=>by rw [h]) hq4
  have hw4:=hw3.qBegin f
  rw [hset,qBegin_eq] at hw4
  simp only [go_sem]
  refine CA_s [] (core_take_w G (H:=⟨H4.f,H4.k,[]⟩) (b:=b) hw4 hfew hc4.mk' hb) ?_
  rintro _ H5 ⟨hc5,hf5⟩ _ _
  have hf5:Fra (ctT c) H4 H5:=hf5.of_mk
  have hcr5:=hc5.core
  have hb5:=hc5.boxes.row b hb
  simp only [go_sem,hcr5]
  refine CA_s [] (box_Call_c G (b:=b) (now:=s.now) (H:=⟨H5.f,H5.k,[]⟩) hb5) ?_
  rintro _ H6 ⟨hb6,hf6⟩ _ _
  have hf6:Fra (At (nBox c b.id)) H5 H6:=hf6.of_mk
  have hid:(beginB s b).id=b.id:=by unfold beginB; split; rfl; split <;> rfl
  rw [Box.called_eq] at hb6
  have hc6:=hc5.boxes' (x:=repl s.boxes (beginB s b)) hf6 (fun n h=>by rw [h]; exact .inr rfl) (BoxesAt.set hc5.boxes (b:=beginB s b) (by rw [hid]; exact (hw.b.2 b hb).id.2) (by rw [hid]; exact hf6) (by rw [hid]; exact hb6))
  simp only [go_sem]
  refine ⟨?_,?_⟩
  ·have e:s.begin f b=CS.setBox (CS.take (CS.qBegin { (s.setFn f (beginF s f)) with boots:=ups (s.setFn f (beginF s f)).boots f none } f) b) (beginB s b):=rfl
   rw [e,hset,qBegin_eq]
   exact hc6.mk'
  ·refine Fra.mk' ?_
   exact hf1.trans ((hff.mono fun n h=>in_at (by decide) rfl h).trans ((hf3.mono fun n h=>ct_in n (tim_ct n h)).trans ((hf4.mono fun n h=>in_at (by decide) rfl h).trans ((hf5.mono ct_in).trans (hf6.mono fun n h=>in_at (by decide) rfl h)))))
 refine W_cut0 ?_
 simp only [go_sem,hcr,hm,pm]
 refine RT_i ?_
 refine W_cut ?_
 simp only [go_sem,hcr,hr.1]
 refine CA_s [] (quota_Busy_c G (n:=nQ c) tg_ne0 s (f:=f) (H:=⟨H.f,H.k,[]⟩) hc.q) ?_
 rintro _ H1 ⟨rfl,hs1⟩ _ _
 have hs1:Same H H1:=hs1.of_mk
 have hc1:=hc.same hs1
 have hr1:=hc1.fns.row f x hx
 have hcr1:=hc1.core
 have e0:ups s.fns f (some x)=s.fns:=by funext k; unfold ups; split <;> simp_all
 have fin0 : ∀ r,¬ (s.busy f=0∧x.last ≥ 0)→RT P (c_core_begin F).ac.tl.tl ⟨endQ [] (fun _ H'=>CoreAt F c o (s.begin f b) H'∧Fra (inCt c) H H'),fun _ _ _=>False,endQ [] (fun _ H'=>CoreAt F c o (s.begin f b) H'∧Fra (inCt c) H H')⟩
    (fr ((0,.ptr (nC c) 0)::(1,i64 f)::(2,.ptr (nBox c b.id) 0)::(6,.ptr (nFn c f) 0)::r)) ⟨H1.f,H1.k,[]⟩:=fun r hn=>by
  refine tail x _ _ ?_ hoft ?_ hs1.fra.mk'
  ·unfold beginF; rw [if_neg hn]
  ·rw [e0]; exact hc1.mk'
 simp only [go_sem,hr1.1]
 refine EI_i (fun d=>?_) (fun d=>?_)
 ·have d:s.busy f=0:=by simpa using d
  simp only [go_sem,hr1.1]
  refine EI_i (fun d'=>?_) (fun d'=>?_)
  ·have d':x.last ≥ 0:=by simpa using d'
   have w1:IntKind.i64.wrap (s.now-x.last)=s.now-x.last:=by unfold maxTime at hnw; exact wrap64 (by omega) (by omega)
   simp only [go_sem,hr1.1,hcr1,w1]
   refine CA_s [] (histo_Add_c G (n:=nHis c f) tg_ne0 hwf.h (x:=s.now-x.last) (H:=⟨H1.f,H1.k,[]⟩) hr1.2.1) ?_
   rintro _ H2 ⟨hh2,hf2⟩ _ _
   have hf2:Fra (At (nHis c f)) H1 H2:=hf2.of_mk
   have a2 : ∀ n:Nm,n.t≠0→n.t≠tg c 7→H2.f n=H1.f n:=fun n h0 h1=>hf2.at_ n (old_of h0) (fun e=>h1 (by rw [e]))
   have hr2:H2.f (nFn c f)=_:=(a2 (nFn c f) tg_ne0 (by simp [tg_inj])).trans hr1.1
   have hg2:H2.f (nRing c f)=_:=(a2 (nRing c f) tg_ne0 (by simp [tg_inj])).trans hr1.2.2
   have hcr2:H2.f (nC c)=_:=(a2 (nC c) tg_ne0 (by simp [tg_inj])).trans hcr1
   simp only [go_sem,hr2,hcr2,w1]
   refine CA_s [] (ring_Push_c G (n:=nRing c f) tg_ne0 hwf.r (x:=s.now-x.last) (H:=⟨H2.f,H2.k,[]⟩) hg2) ?_
   rintro _ H3 ⟨hg3,hf3⟩ _ _
   have hf3:Fra (At (nRing c f)) H2 H3:=hf3.of_mk
   have a3 : ∀ n:Nm,n.t≠0→n.t≠tg c 8→H3.f n=H2.f n:=fun n h0 h1=>hf3.at_ n (old_of h0) (fun e=>h1 (by rw [e]))
   have hr3:H3.f (nFn c f)=_:=(a3 (nFn c f) tg_ne0 (by simp [tg_inj])).trans hr2
   have hh3:H3.f (nHis c f)=_:=(a3 (nHis c f) tg_ne0 (by simp [tg_inj])).trans hh2
   simp only [go_sem]
   have hfx:Fra (fun n=>n=nFn c f∨n=nHis c f∨n=nRing c f) H1 H3:=(hf2.mono fun n h=>.inr (.inl h)).trans (hf3.mono fun n h=>.inr (.inr h))
   refine tail { x with h:=x.h.add (s.now-x.last),r:=x.r.push (s.now-x.last) } _ _ ?_ hoft ?_ ?_
   ·unfold beginF; rw [if_pos ⟨d,d'⟩]
   ·exact (hc1.fns' hfx (fun n h=>by rcases h with h | h | h <;> rw [h]; exact .inr (.inl rfl); exact .inr (.inr (.inl rfl)); exact .inr (.inr (.inr rfl))) (FnsAt.set hc1.fns (y:={ x with h:=x.h.add (s.now-x.last),r:=x.r.push (s.now-x.last) }) hx hfx hr3 hh3 hg3)).mk'
   ·exact Fra.mk' (hs1.fra.trans (hfx.mono fun n h=>by rcases h with h | h | h <;> rw [h] <;> exact inCt_of (by decide) rfl))
  ·simp only [go_sem]
   exact fin0 _ (fun h=>by simp at d'; omega)
 ·simp only [go_sem]
  exact fin0 _ (fun h=>by simp [h.1] at d)
end Go.Ab

namespace Gh
open CS
def wsum (g:Box→Int):List Box→Int
 | []=>0
 | b::r=>g b+wsum g r
def memG (h:Nat) (b:Box):Int:=if b.host=h then b.mem else 0
def runG (f:Nat) (b:Box):Int:=if b.fn=f∧b.runs=true then 1 else 0
abbrev Srt (l:List Box):Prop:=l.Pairwise (fun a b=>a.id<b.id)
theorem wsum_id {g:Box→Int} {l:List Box} {b:Box} (h : ∀ x∈l,b.id<x.id):(l.filter fun x=>x.id != b.id)=l:=by
 rw [List.filter_eq_self]
 intro y hy
 have:=h y hy
 simp; omega
theorem wsum_filter {g:Box→Int} {l:List Box} (hs:Srt l) {b:Box} (hb:b∈l):wsum g (l.filter fun x=>x.id != b.id)=wsum g l-g b:=by
 induction l with
 | nil=>cases hb
 | cons x r ih =>
  rw [Srt,List.pairwise_cons] at hs
  rcases List.mem_cons.1 hb with h | h
  ·subst h
   have:(b.id != b.id)=false:=by simp
   rw [List.filter_cons,this]
   simp only [Bool.false_eq_true,if_false,wsum]
   rw [wsum_id (g:=g) hs.1]; omega
  ·have hne:x.id≠b.id:=by have:=hs.1 b h; omega
   have:(x.id != b.id)=true:=by simpa using hne
   rw [List.filter_cons,this]
   simp only [if_true,wsum]
   rw [ih hs.2 h]; omega
theorem wsum_map {g:Box→Int} {l:List Box} {b:Box} (h : ∀ x∈l,x.id≠b.id):(l.map fun x=>if x.id=b.id then b else x)=l:=by
 refine (List.map_congr_left (g:=fun x=>x) fun x hx=>?_).trans (List.map_id' _)
 rw [if_neg (h x hx)]
theorem wsum_repl {g:Box→Int} {l:List Box} (hs:Srt l) {a b:Box} (ha:a∈l) (hi:b.id=a.id):wsum g (l.map fun x=>if x.id=b.id then b else x)=wsum g l-g a+g b:=by
 induction l with
 | nil=>cases ha
 | cons x r ih =>
  rw [Srt,List.pairwise_cons] at hs
  rw [List.map_cons]
  rcases List.mem_cons.1 ha with h | h
  ·subst h
   rw [if_pos hi.symm,wsum_map (g:=g) (fun y hy=>by have:=hs.1 y hy; omega)]
   simp only [wsum]; omega
  ·have:=hs.1 a h
   rw [if_neg (by omega)]
   simp only [wsum]
   rw [ih hs.2 h]; omega
theorem wsum_app {g:Box→Int} {l:List Box} {b:Box}:wsum g (l++[b])=wsum g l+g b:=by
 induction l with
 | nil=>simp [wsum]
 | cons x r ih=>simp only [List.cons_append,wsum,ih]; omega
theorem wsum_nn {g:Box→Int} {l:List Box} (h : ∀ b∈l,0≤g b):0≤wsum g l:=by
 induction l with
 | nil=>exact Int.le_refl _
 | cons x r ih =>
  have:=h x (List.mem_cons_self ..)
  have:=ih fun b hb=>h b (List.mem_cons_of_mem _ hb)
  simp only [wsum]; omega
theorem wsum_ge {g:Box→Int} {l:List Box} (h : ∀ b∈l,0≤g b) {b:Box} (hb:b∈l):g b≤wsum g l:=by
 induction l with
 | nil=>cases hb
 | cons x r ih =>
  have h1:=h x (List.mem_cons_self ..)
  have h2:=wsum_nn fun b hb=>h b (List.mem_cons_of_mem _ hb)
  rcases List.mem_cons.1 hb with e | hb
  ·subst e; simp only [wsum]; omega
  ·have:=ih (fun b hb=>h b (List.mem_cons_of_mem _ hb)) hb
   simp only [wsum]; omega
section
variable {s : CS}
theorem WF.mem1 (w:WF s) {b:Box} (hb:b∈s.boxes):1≤b.mem∧b.mem≤4096:=by
 obtain ⟨x,hx,hm⟩:=(w.b.2 b hb).fn
 have:=(w.f _ x hx).2.1.mem
 omega
theorem WF.memG (w:WF s) (h:Nat) : ∀ b∈s.boxes,0≤memG h b:=by
 intro b hb
 have:=w.mem1 hb
 unfold Gh.memG; split <;> omega
theorem runG_nn {f:Nat} {l:List Box} : ∀ b∈l,0≤runG f b:=by
 intro b _
 unfold runG; split <;> omega
structure Tidy (s:CS) (ex:Int→Prop):Prop where
 w : ∀ b∈s.boxes,¬ ex b.id→((∃ w,s.worth b.host b.id=some w)↔b.st=1∧b.pinned=false)
 e : ∀ b∈s.boxes,¬ ex b.id→((∃ t,s.ends b.id=some t)↔b.st=1∧b.pinned=false)
 h : ∀ b∈s.boxes,s.hThere b.host=true
 u : ∀ h,h<32→(s.hosts h).used=wsum (memG h) s.boxes
 q : ∀ f,f<64→(s.qf f).busy=wsum (runG f) s.boxes
abbrev no1:Int→Prop:=fun _=>False
theorem Tidy.mono {ex ex':Int→Prop} (t:Tidy s ex) (h : ∀ i,ex i→ex' i):Tidy s ex' :=
 ⟨fun b hb hn=>t.w b hb fun h'=>hn (h _ h'),fun b hb hn=>t.e b hb fun h'=>hn (h _ h'),t.h,t.u,t.q⟩
def OB (s:CS):Prop:=(s.out.length:Int)≤s.next+deads s.boxes s.next
theorem hThere_iff {h:Int}:s.hThere h=true↔(0≤h∧h<32)∧(s.hosts h.toNat).there=true:=by
 unfold CS.hThere; simp [Bool.and_eq_true]
theorem known_of (w:WF s) {f:Int} {x:Fnc} (hx:s.fns f=some x):s.known f=true:=by
 have:=(w.f f x hx).1
 unfold CS.known
 have h1:=(w.q.lf f.toNat (by omega)).2 ⟨x,by rw [Int.toNat_of_nonneg this.1]; exact hx⟩
 simp [this,h1]
theorem gone_worth (s:CS) (b:Box):(s.gone b).worth=ups2 s.worth b.host b.id none∧(s.gone b).ends=ups s.ends b.id none∧(s.gone b).ahead=ups s.ahead b.id none∧(s.gone b).boots=s.boots∧(s.gone b).tok=s.tok∧(s.gone b).out=s.out:=by
 unfold CS.gone
 have e2 : ∀ (s:CS) f,(s.ended f).worth=s.worth∧(s.ended f).ends=s.ends∧(s.ended f).ahead=s.ahead∧(s.ended f).boots=s.boots∧(s.ended f).tok=s.tok∧(s.ended f).out=s.out:=by
  intro s f
  unfold CS.ended CS.qEnd CS.setFn
  split <;> exact ⟨rfl,rfl,rfl,rfl,rfl,rfl⟩
 have e3 : ∀ (s:CS) k m,(s.hGive k m).worth=s.worth∧(s.hGive k m).ends=s.ends∧(s.hGive k m).ahead=s.ahead∧(s.hGive k m).boots=s.boots∧(s.hGive k m).tok=s.tok∧(s.hGive k m).out=s.out:=by
  intro s k m
  unfold CS.hGive
  split <;> exact ⟨rfl,rfl,rfl,rfl,rfl,rfl⟩
 by_cases h:b.runs=true
 ·simp only [h,if_true,e3,e2]; exact ⟨rfl,rfl,rfl,rfl,rfl,rfl⟩
 ·simp only [h,if_false,Bool.false_eq_true,e3]; exact ⟨rfl,rfl,rfl,rfl,rfl,rfl⟩
theorem gone_hosts (w:WF s) {ex:Int→Prop} (t:Tidy s ex) {b:Box} (hb:b∈s.boxes):(s.gone b).hosts=upn s.hosts b.host.toNat (swept { s.hosts b.host.toNat with used:=(s.hosts b.host.toNat).used-b.mem }):=by
 have h1:=t.h b hb
 have h2:=hThere_iff.1 h1
 have h3:=t.u b.host.toNat (by omega)
 have h4:=wsum_ge (w.memG b.host.toNat) hb
 have h5:=w.mem1 hb
 have h6:memG b.host.toNat b=b.mem:=by unfold memG; rw [if_pos (by omega)]
 have key : ∀ s2:CS,s2.hosts=s.hosts→(s2.hGive b.host b.mem).hosts=upn s.hosts b.host.toNat (swept { s.hosts b.host.toNat with used:=(s.hosts b.host.toNat).used-b.mem }):=by
  intro s2 e
  unfold CS.hGive
  have e1:s2.hThere b.host=true:=by unfold CS.hThere at h1 ⊢; rw [e]; exact h1
  rw [if_neg (by rw [e1,e]; simp; omega)]
  simp only [e]
 unfold CS.gone
 have e2 : ∀ (s:CS) f,(s.ended f).hosts=s.hosts:=by
  intro s f
  unfold CS.ended CS.qEnd CS.setFn
  split <;> rfl
 by_cases h:b.runs=true
 ·simp only [h,if_true]; exact key _ (by rw [e2]; rfl)
 ·simp only [h,if_false,Bool.false_eq_true]; exact key _ rfl
theorem gone_qf (w:WF s) {ex:Int→Prop} (t:Tidy s ex) {b:Box} (hb:b∈s.boxes):(s.gone b).qf=if b.runs=true then upn s.qf b.fn.toNat { s.qf b.fn.toNat with busy:=(s.qf b.fn.toNat).busy-1 } else s.qf:=by
 obtain ⟨x,hx,_⟩:=(w.b.2 b hb).fn
 have hk:=known_of w hx
 have hf:=(w.f _ x hx).1
 have e3 : ∀ (s:CS) k m,(s.hGive k m).qf=s.qf:=by
  intro s k m
  unfold CS.hGive
  split <;> rfl
 unfold CS.gone
 by_cases h:b.runs=true
 ·simp only [h,if_true,e3]
  have h3:=t.q b.fn.toNat (by omega)
  have h4:=wsum_ge (g:=runG b.fn.toNat) runG_nn hb
  have h6:runG b.fn.toNat b=1:=by unfold runG; rw [if_pos ⟨by omega,h⟩]
  show ((s.take b).qEnd b.fn).qf=_
  unfold CS.qEnd
  have e1:(s.take b).known b.fn=true:=hk
  have e2:((s.take b).qf b.fn.toNat).busy=(s.qf b.fn.toNat).busy:=rfl
  rw [if_pos (by rw [e1,e2]; simp; omega)]
  rfl
 ·simp only [h,if_false,Bool.false_eq_true,e3]; rfl
theorem swept_used (m:Mach):(swept m).used=if m.draining=true∧m.used=0 then 0 else m.used:=by
 unfold CS.swept
 by_cases h:m.draining=true∧m.used=0
 ·rw [if_pos h,if_pos (by simp [h.1,h.2])]
 ·rw [if_neg h,if_neg (by simpa using h)]
theorem Tidy.gone (w:WF s) {ex:Int→Prop} (t:Tidy s ex) {b:Box} (hb:b∈s.boxes) (hex : ∀ i,ex i→i=b.id):Tidy (s.gone b) no1:=by
 have hbx:=(gone_boxes s b).1
 have hgw:=gone_worth s b
 have hmem : ∀ x,x∈(s.gone b).boxes→x∈s.boxes∧x.id≠b.id:=by
  intro x hx
  rw [hbx] at hx
  have:=List.mem_filter.1 hx
  exact ⟨this.1,by simpa using this.2⟩
 have hu:=t.u
 have hgh:=gone_hosts w t hb
 have hth:=hThere_iff.1 (t.h b hb)
 refine ⟨fun x hx _=>?_,fun x hx _=>?_,fun x hx=>?_,fun h hh=>?_,fun f hf=>?_⟩
 ·obtain ⟨h1,h2⟩:=hmem x hx
  rw [hgw.1]
  unfold ups2
  rw [if_neg (fun h=>h2 h.2)]
  exact t.w x h1 fun h=>h2 (hex _ h)
 ·obtain ⟨h1,h2⟩:=hmem x hx
  rw [hgw.2.1]
  unfold ups
  rw [if_neg h2]
  exact t.e x h1 fun h=>h2 (hex _ h)
 ·obtain ⟨h1,h2⟩:=hmem x hx
  have h3:=hThere_iff.1 (t.h x h1)
  rw [hThere_iff]
  refine ⟨h3.1,?_⟩
  rw [hgh]
  unfold upn
  split
  ·rename_i e
   have hxm:=w.mem1 h1
   have h5:memG b.host.toNat x=x.mem:=by unfold memG; rw [if_pos (by omega)]
   have h6:memG b.host.toNat b=b.mem:=by unfold memG; rw [if_pos (by omega)]
   have h7:=hu b.host.toNat (by omega)
   have h8:=wsum_filter (g:=memG b.host.toNat) w.b.1 hb
   have h9:memG b.host.toNat x≤wsum (memG b.host.toNat) (s.boxes.filter fun y=>y.id != b.id):=wsum_ge (fun y hy=>w.memG _ y (List.mem_filter.1 hy).1) (by rw [← hbx]; exact hx)
   unfold CS.swept
   rw [if_neg (by simp; intro _; omega)]
   simp only
   rw [← e]; exact h3.2
  ·exact h3.2
 ·rw [hgh,hbx]
  have h8:=wsum_filter (g:=memG h) w.b.1 hb
  rw [h8]
  unfold upn
  split
  ·rename_i e
   subst e
   have h6:memG b.host.toNat b=b.mem:=by unfold memG; rw [if_pos (by omega)]
   rw [swept_used,← hu _ hh,h6]
   simp only
   split <;> omega
  ·rename_i e
   have h6:memG h b=0:=by unfold memG; rw [if_neg (by omega)]
   rw [hu h hh,h6]; omega
 ·rw [gone_qf w t hb,hbx]
  have h8:=wsum_filter (g:=runG f) w.b.1 hb
  rw [h8]
  obtain ⟨y,hy,_⟩:=(w.b.2 b hb).fn
  have hfb:=(w.f _ y hy).1
  by_cases hr:b.runs=true
  ·rw [if_pos hr]
   unfold upn
   split
   ·rename_i e
    subst e
    have h6:runG b.fn.toNat b=1:=by unfold runG; rw [if_pos ⟨by omega,hr⟩]
    have:=t.q _ hf
    simp only; omega
   ·have h6:runG f b=0:=by unfold runG; rw [if_neg (by omega)]
    have:=t.q _ hf
    omega
  ·rw [if_neg hr]
   have h6:runG f b=0:=by unfold runG; rw [if_neg (by simp [hr])]
   have:=t.q _ hf
   omega
theorem Tidy.out {ex:Int→Prop} (t:Tidy s ex) (o:List Cmd):Tidy { s with out:=o } ex:=⟨t.w,t.e,t.h,t.u,t.q⟩
theorem Tidy.kill (w:WF s) {ex:Int→Prop} (t:Tidy s ex) {b:Box} (hb:b∈s.boxes) (hex : ∀ i,ex i→i=b.id):Tidy (s.kill b) no1:=(t.gone w hb hex).out _
theorem deads_filter (w:WF s) {b:Box} (hb:b∈s.boxes):deads (s.boxes.filter fun x=>x.id != b.id) s.next=deads s.boxes s.next+1:=by
 have:=pairwise_filter_len w.b.1 hb
 unfold deads; omega
theorem OB.gone (w:WF s) (o:OB s) {b:Box} (hb:b∈s.boxes):((s.gone b).out.length:Int)+1≤(s.gone b).next+deads (s.gone b).boxes (s.gone b).next:=by
 have h:=gone_boxes s b
 rw [(gone_worth s b).2.2.2.2.2,h.1,h.2.1,deads_filter w hb]
 unfold OB at o; omega
theorem OB.kill (w:WF s) (o:OB s) {b:Box} (hb:b∈s.boxes):OB (s.kill b):=by
 have:=o.gone w hb
 unfold OB CS.kill
 simp only [List.length_append,List.length_singleton]
 omega
theorem Tidy.idle (w:WF s) {ex:Int→Prop} (t:Tidy s ex) {b:Box} (hb:b∈s.boxes) (hex : ∀ i,ex i→i=b.id) (h1:b.st=1) (h2:b.pinned=false) (stop:Int):Tidy (s.idle b stop) no1:=by
 unfold CS.idle
 split
 ·exact t.kill w hb hex
 ·obtain ⟨x,hx,_⟩:=(w.b.2 b hb).fn
  have hwo : ∃ v,s.worthOf b=some v:=⟨_,by unfold CS.worthOf; rw [hx]; rfl⟩
  have same : ∀ y∈s.boxes,y.id=b.id→y=b:=fun y hy e=>by
   have e1:=w.find hy
   rw [e,w.find hb] at e1
   exact (Option.some.inj e1).symm
  refine ⟨fun y hy _=>?_,fun y hy _=>?_,t.h,t.u,t.q⟩
  ·show (∃ w,ups2 s.worth b.host b.id (s.worthOf b) y.host y.id=some w)↔_
   unfold ups2
   by_cases e:y.id=b.id
   ·have:=same y hy e
    subst this
    simp only [and_self,if_true]
    exact ⟨fun _=>⟨h1,h2⟩,fun _=>hwo⟩
   ·rw [if_neg (fun h=>e h.2)]
    exact t.w y hy fun h=>e (hex _ h)
  ·show (∃ w,ups s.ends b.id (some stop) y.id=some w)↔_
   unfold ups
   by_cases e:y.id=b.id
   ·have:=same y hy e
    subst this
    simp only [if_true]
    exact ⟨fun _=>⟨h1,h2⟩,fun _=>⟨_,rfl⟩⟩
   ·rw [if_neg e]
    exact t.e y hy fun h=>e (hex _ h)
theorem OB.idle (w:WF s) (o:OB s) {b:Box} (hb:b∈s.boxes) (stop:Int):OB (s.idle b stop):=by
 unfold CS.idle
 split
 ·exact o.kill w hb
 ·exact o
theorem setBox_boxes {b:Box}:(s.setBox b).boxes=s.boxes.map fun x=>if x.id=b.id then b else x:=rfl
theorem same_of (w:WF s) {a y:Box} (ha:a∈s.boxes) (hy:y∈s.boxes) (e:y.id=a.id):y=a:=by
 have e1:=w.find hy
 rw [e,w.find ha] at e1
 exact (Option.some.inj e1).symm
theorem Tidy.setBox (w:WF s) {ex:Int→Prop} (t:Tidy s ex) {a b:Box} (ha:a∈s.boxes) (hi:b.id=a.id) (hh:b.host=a.host) (hm:b.mem=a.mem) (hf:b.fn=a.fn) (hr:b.runs=a.runs):Tidy (s.setBox b) (fun i=>ex i∨i=b.id):=by
 have hg : ∀ g:Box→Int,wsum g (s.setBox b).boxes=wsum g s.boxes-g a+g b:=fun g=>wsum_repl w.b.1 ha hi
 refine ⟨fun y hy hn=>?_,fun y hy hn=>?_,fun y hy=>?_,fun h hlt=>?_,fun f hlt=>?_⟩
 ·rcases setBox_mem hy with ⟨rfl,_⟩ | ⟨h1,h2⟩
  ·exact absurd (.inr rfl) hn
  ·exact t.w y h1 fun h=>hn (.inl h)
 ·rcases setBox_mem hy with ⟨rfl,_⟩ | ⟨h1,h2⟩
  ·exact absurd (.inr rfl) hn
  ·exact t.e y h1 fun h=>hn (.inl h)
 ·rcases setBox_mem hy with ⟨rfl,_⟩ | ⟨h1,h2⟩
  ·rw [hh]; exact t.h a ha
  ·exact t.h y h1
 ·rw [hg]
  have:memG h b=memG h a:=by unfold memG; rw [hh,hm]
  have:=t.u h hlt
  show (s.hosts h).used=_
  omega
 ·rw [hg]
  have:runG f b=runG f a:=by unfold runG; rw [hf,hr]
  have:=t.q f hlt
  show (s.qf f).busy=_
  omega
theorem OB.setBox (o:OB s) {b:Box}:OB (s.setBox b):=by
 unfold OB deads at o ⊢
 rw [setBox_len]; exact o
theorem OB.take (o:OB s) {b:Box}:OB (s.take b):=o
theorem Tidy.fill {ex:Int→Prop} (t:Tidy s ex) (h : ∀ b∈s.boxes,ex b.id→((∃ w,s.worth b.host b.id=some w)↔b.st=1∧b.pinned=false)∧((∃ t,s.ends b.id=some t)↔b.st=1∧b.pinned=false)):Tidy s no1 :=
 ⟨fun b hb _=>by
  by_cases hx:ex b.id
  ·exact (h b hb hx).1
  ·exact t.w b hb hx,fun b hb _=>by
  by_cases hx:ex b.id
  ·exact (h b hb hx).2
  ·exact t.e b hb hx,t.h,t.u,t.q⟩
theorem Tidy.take {ex:Int→Prop} (w:WF s) (t:Tidy s ex) {b:Box} (_:b∈s.boxes):Tidy (s.take b) (fun i=>ex i∨i=b.id) :=
 ⟨fun y hy hn=>by
  show (∃ w,ups2 s.worth b.host b.id none y.host y.id=some w)↔_
  unfold ups2
  rw [if_neg (fun h=>hn (.inr h.2))]
  exact t.w y hy fun h=>hn (.inl h),fun y hy hn=>by
  show (∃ w,ups s.ends b.id none y.id=some w)↔_
  unfold ups
  rw [if_neg (fun h=>hn (.inr h))]
  exact t.e y hy fun h=>hn (.inl h),t.h,t.u,t.q⟩
theorem setBox_self (w:WF s) {a b:Box} (ha:a∈s.boxes) (hi:b.id=a.id):b∈(s.setBox b).boxes:=by
 simp only [CS.setBox,List.mem_map]
 exact ⟨a,ha,by simp [hi]⟩
theorem Tidy.unpin (w:WF s) (t:Tidy s no1) {b:Box} (hb:b∈s.boxes) (hp:b.pinned=true) (f:Int):Tidy (s.unpin f b) no1:=by
 unfold CS.unpin
 have hbb:=w.b.2 b hb
 have w1:WF (s.setBox { b with pinned:=false }):=w.setBox hb rfl rfl rfl rfl hbb.st hbb.since
 have t1:=t.setBox w (b:={ b with pinned:=false }) hb rfl rfl rfl rfl rfl
 have hm:({ b with pinned:=false }:Box)∈(s.setBox { b with pinned:=false }).boxes:=setBox_self w hb rfl
 by_cases hi:b.idle=true
 ·simp only [hi,if_true]
  refine t1.idle w1 hm (fun i h=>?_) ?_ rfl _
  ·rcases h with h | h
   ·exact h.elim
   ·exact h
  ·unfold Box.idle at hi; simpa using hi
 ·simp only [hi,Bool.false_eq_true,if_false]
  refine t1.fill fun y hy hx=>?_
  have hy':y={ b with pinned:=false }:=by
   rcases hx with h | h
   ·exact h.elim
   ·exact same_of w1 hm hy h
  subst hy'
  have h1:=t.w b hb (fun h=>h)
  have h2:=t.e b hb (fun h=>h)
  rw [hp] at h1 h2
  have hst:b.st≠1:=by unfold Box.idle at hi; simpa using hi
  refine ⟨h1.trans ?_,h2.trans ?_⟩ <;> simp [hst]
theorem OB.unpin (w:WF s) (o:OB s) {b:Box} (hb:b∈s.boxes) (f:Int):OB (s.unpin f b):=by
 unfold CS.unpin
 have hbb:=w.b.2 b hb
 have w1:WF (s.setBox { b with pinned:=false }):=w.setBox hb rfl rfl rfl rfl hbb.st hbb.since
 have hm:({ b with pinned:=false }:Box)∈(s.setBox { b with pinned:=false }).boxes:=setBox_self w hb rfl
 split
 ·exact (o.setBox).idle w1 hm _
 ·exact o.setBox
theorem Tidy.pin (w:WF s) {ex:Int→Prop} (t:Tidy s ex) {b:Box} (hb:b∈s.boxes) (hex : ∀ i,ex i→i=b.id):Tidy (s.pin b) no1:=by
 have hbb:=w.b.2 b hb
 have w1:=w.take b
 have t1:=(t.take w hb).setBox w1 (b:={ b with pinned:=true }) (a:=b) hb rfl rfl rfl rfl rfl
 have w2:WF ((s.take b).setBox { b with pinned:=true }):=w1.setBox (a:=b) hb rfl rfl rfl rfl hbb.st hbb.since
 refine t1.fill fun y hy hx=>?_
 have hm:({ b with pinned:=true }:Box)∈((s.take b).setBox { b with pinned:=true }).boxes:=setBox_self w1 (a:=b) hb rfl
 have hy':y={ b with pinned:=true }:=by
  rcases hx with (h | h) | h
  ·exact same_of w2 hm hy (hex _ h)
  ·exact same_of w2 hm hy h
  ·exact same_of w2 hm hy h
 subst hy'
 constructor
 ·show (∃ w,ups2 s.worth b.host b.id none b.host b.id=some w)↔_
  simp [ups2]
 ·show (∃ w,ups s.ends b.id none b.id=some w)↔_
  simp [ups]
theorem OB.pin (o:OB s) {b:Box}:OB (s.pin b):=by
 unfold CS.pin
 exact OB.setBox (s:=s.take b) o.take
theorem hTake_hosts {h mem:Int} (hu:s.up h=true) (hm:0≤mem) (hf:mem≤s.free h):s.hTake h mem={ s with hosts:=upn s.hosts h.toNat { s.hosts h.toNat with used:=(s.hosts h.toNat).used+mem } }:=by
 unfold CS.hTake
 rw [if_neg (by simp [hu]; omega)]
theorem up_there {h:Int} (hu:s.up h=true):s.hThere h=true:=by unfold CS.up at hu; simp at hu; exact hu.1
theorem Tidy.start (w:WF s) (t:Tidy s no1) {f h:Int} {x:Fnc} (hx:s.fns f=some x) (hu:s.up h=true) (hf:x.mem≤s.free h):Tidy (s.start f h).1 no1:=by
 have em:s.memOf f=x.mem:=by unfold CS.memOf; rw [hx]
 have hmem:=(w.f f x hx).2.1.mem
 have hth:=hThere_iff.1 (up_there hu)
 unfold CS.start
 rw [em,hTake_hosts hu (by omega) hf]
 simp only
 have nw:s.worth h s.next=none:=by
  cases hn:s.worth h s.next with
  | none=>rfl
  | some v =>
   obtain ⟨_,b,hb,e,_⟩:=w.w.1 h s.next v hn
   have:=(w.b.2 b hb).id.2; omega
 have ne:s.ends s.next=none:=by
  cases hn:s.ends s.next with
  | none=>rfl
  | some v =>
   obtain ⟨_,b,hb,e⟩:=w.e s.next v hn
   have:=(w.b.2 b hb).id.2; omega
 refine ⟨fun b hb _=>?_,fun b hb _=>?_,fun b hb=>?_,fun k hk=>?_,fun k hk=>?_⟩
 ·rcases List.mem_append.1 hb with hb | hb
  ·exact t.w b hb (fun h=>h)
  ·rw [List.mem_singleton] at hb; subst hb
   show (∃ w,s.worth h s.next=some w)↔_
   rw [nw]; simp
 ·rcases List.mem_append.1 hb with hb | hb
  ·exact t.e b hb (fun h=>h)
  ·rw [List.mem_singleton] at hb; subst hb
   show (∃ w,s.ends s.next=some w)↔_
   rw [ne]; simp
 ·have key : ∀ k:Int,s.hThere k=true→CS.hThere { s with hosts:=upn s.hosts h.toNat { s.hosts h.toNat with used:=(s.hosts h.toNat).used+x.mem } } k=true:=by
   intro k hk
   rw [hThere_iff] at hk ⊢
   refine ⟨hk.1,?_⟩
   show (upn s.hosts h.toNat _ k.toNat).there=true
   unfold upn
   split
   ·exact hth.2
   ·exact hk.2
  rcases List.mem_append.1 hb with hb | hb
  ·exact key _ (t.h b hb)
  ·rw [List.mem_singleton] at hb; subst hb
   exact key _ (up_there hu)
 ·rw [wsum_app]
  show (upn s.hosts h.toNat _ k).used=_
  have:=t.u k hk
  unfold upn
  split
  ·rename_i e
   subst e
   simp only [memG]
   rw [if_pos (by omega)]; omega
  ·rename_i e
   simp only [memG]
   rw [if_neg (by omega)]; omega
 ·rw [wsum_app]
  have:runG k { id:=s.next,fn:=f,host:=h,mem:=x.mem,since:=s.now }=0:=by unfold runG Box.runs; simp
  have:=t.q k hk
  show (s.qf k).busy=_
  omega
theorem OB.start (o:OB s) (f h:Int):OB (s.start f h).1:=by
 have e:(s.hTake h (s.memOf f)).boxes=s.boxes∧(s.hTake h (s.memOf f)).out=s.out:=by unfold CS.hTake; split <;> exact ⟨rfl,rfl⟩
 unfold OB CS.start deads at *
 simp only [List.length_append,List.length_singleton,e.1,e.2]
 omega
end
end Gh

namespace Gh
open CS
theorem best_min {α:Type} {lt:α→α→Bool} : ∀ {l:List α},(∀ a b c,a∈l→b∈l→c∈l→lt a b=false→lt b c=false→lt a c=false)→(∀ a b,a∈l→b∈l→lt a b=true→lt b a=false) →
  ∀ {z:α},best lt l=some z → ∀ y∈l,lt y z=false
 | [],_,_,_,h=>by simp [best] at h
 | x::r,nt,as,z,h=>by
  have hx:x∈x::r:=List.mem_cons_self ..
  have irr : ∀ a∈x::r,lt a a=false:=fun a ha=>by
   cases e:lt a a with
   | false=>rfl
   | true=>have:=as a a ha ha e; rw [e] at this; cases this
  simp only [best] at h
  cases hb:best lt r with
  | none =>
   simp only [hb,Option.some.injEq] at h
   subst h
   have hr:=best_none.1 hb
   subst hr
   intro y hy
   rw [List.mem_singleton] at hy
   subst hy; exact irr _ hx
  | some w =>
   have hw:w∈x::r:=List.mem_cons_of_mem _ (best_mem hb)
   have ih:=best_min (l:=r) (fun a b c ha hb hc=>nt a b c (List.mem_cons_of_mem _ ha) (List.mem_cons_of_mem _ hb) (List.mem_cons_of_mem _ hc)) (fun a b ha hb=>as a b (List.mem_cons_of_mem _ ha) (List.mem_cons_of_mem _ hb)) hb
   simp only [hb] at h
   split at h
   ·rename_i hlt
    simp only [Option.some.injEq] at h
    subst h
    intro y hy
    rcases List.mem_cons.1 hy with rfl | hy
    ·exact as _ _ hw hx hlt
    ·exact ih y hy
   ·rename_i hlt
    simp only [Option.some.injEq] at h
    subst h
    intro y hy
    rcases List.mem_cons.1 hy with rfl | hy'
    ·exact irr _ hx
    ·exact nt y w x hy hw hx (ih y hy') (by simpa using hlt)
theorem best_of {α:Type} {lt:α→α→Bool} {l:List α} {m:α} (nt : ∀ a b c,a∈l→b∈l→c∈l→lt a b=false→lt b c=false→lt a c=false) (as : ∀ a b,a∈l→b∈l→lt a b=true→lt b a=false)
  (hm:m∈l) (hl : ∀ y∈l,lt y m=false) (hu : ∀ y∈l,lt y m=false→lt m y=false→y=m):best lt l=some m:=by
 cases hb:best lt l with
 | none=>rw [best_none.1 hb] at hm; cases hm
 | some z=>rw [hu z (best_mem hb) (hl z (best_mem hb)) (best_min nt as hb m hm)]
def looseG (h:Int) (b:Box):Int:=if b.host=h∧b.st=1∧b.pinned=false then b.mem else 0
theorem sumL_eq (l:List Int) (z:Int):l.foldl (· + ·) z=z+l.foldl (· + ·) 0:=by
 induction l generalizing z with
 | nil=>simp
 | cons a r ih=>rw [List.foldl_cons,List.foldl_cons,ih,ih (0+a)]; omega
theorem sumL_cons (a:Int) (l:List Int):sumL (a::l)=a+sumL l:=by unfold sumL; rw [List.foldl_cons,sumL_eq]; omega
section
variable {s : CS}
theorem loose_eq (h:Int):s.loose h=wsum (looseG h) s.boxes:=by
 unfold CS.loose CS.pick
 generalize s.boxes=l
 induction l with
 | nil=>rfl
 | cons b r ih =>
  rw [List.filter_cons]
  simp only [wsum]
  rw [← ih]
  by_cases hc:b.host=h∧b.st=1∧b.pinned=false
  ·have e:(b.host==h&&b.idle && !b.pinned)=true:=by unfold Box.idle; simp [hc.1,hc.2.1,hc.2.2]
   rw [e]
   simp only [if_true,List.map_cons,sumL_cons,looseG]
   rw [if_pos hc]
  ·have e:(b.host==h&&b.idle && !b.pinned)=false:=by
    unfold Box.idle
    rw [Bool.eq_false_iff]
    intro e
    simp only [Bool.and_eq_true,beq_iff_eq,Bool.not_eq_true'] at e
    exact hc ⟨e.1.1,e.1.2,e.2⟩
   rw [e]
   simp only [Bool.false_eq_true,if_false,looseG]
   rw [if_neg hc]; omega
structure Ok (s:CS):Prop where
 w:WF s
 t:Tidy s no1
 o:OB s
theorem Tidy.clock {ex:Int→Prop} {k:Int→Int} (t:Tidy s ex):Tidy { s with clock:=k } ex:=⟨t.w,t.e,t.h,t.u,t.q⟩
theorem Tidy.unworth {ex:Int→Prop} (t:Tidy s ex) (h id:Int):Tidy { s with worth:=ups2 s.worth h id none } (fun i=>ex i∨i=id) :=
 ⟨fun y hy hn=>by
  show (∃ w,ups2 s.worth h id none y.host y.id=some w)↔_
  unfold ups2
  rw [if_neg (fun h=>hn (.inr h.2))]
  exact t.w y hy fun h=>hn (.inl h),fun y hy hn=>t.e y hy fun h=>hn (.inl h),t.h,t.u,t.q⟩
abbrev evS (s:CS) (h:Int) (w:Int × Int) (b:Box):CS:={ s with worth:=ups2 s.worth h b.id none,clock:=ups s.clock h (max (s.clock h) (w.1 / w.2)) }
theorem Ok.evict1 (k:Ok s) {h:Int} {w:Int × Int} {b:Box} (hw:s.worth h b.id=some w) (hb:b∈s.boxes):Ok ((evS s h w b).kill b):=by
 have e:=kill_clock { s with worth:=ups2 s.worth h b.id none } (ups s.clock h (max (s.clock h) (w.1 / w.2))) b
 refine ⟨k.w.evict1 hw hb,?_,?_⟩
 ·show Tidy (CS.kill { ({ s with worth:=ups2 s.worth h b.id none }:CS) with clock:=_ } b) no1
  rw [e]
  exact ((k.t.unworth h b.id).kill (k.w.unworth h b.id) hb (fun i h=>h.elim False.elim id)).clock
 ·show OB (CS.kill { ({ s with worth:=ups2 s.worth h b.id none }:CS) with clock:=_ } b)
  rw [e]
  exact OB.kill (s:={ s with worth:=ups2 s.worth h b.id none }) (k.w.unworth h b.id) k.o hb
theorem cand_host (k:Ok s) {h:Int} {w:Int × Int} {b:Box} (hw:s.worth h b.id=some w) (hb:b∈s.boxes):b.host=h∧b.st=1∧b.pinned=false:=by
 obtain ⟨_,y,hy,e,hh⟩:=k.w.w.1 h b.id w hw
 have:=same_of k.w hb hy e
 subst this
 subst hh
 exact ⟨rfl,(k.t.w y hb (fun h=>h)).1 ⟨w,hw⟩⟩
theorem evict1_hosts (k:Ok s) {h:Int} {w:Int × Int} {b:Box} (hw:s.worth h b.id=some w) (hb:b∈s.boxes) :
  ((evS s h w b).kill b).hosts=upn s.hosts b.host.toNat (swept { s.hosts b.host.toNat with used:=(s.hosts b.host.toNat).used-b.mem }):=by
 have e:=kill_clock { s with worth:=ups2 s.worth h b.id none } (ups s.clock h (max (s.clock h) (w.1 / w.2))) b
 show (CS.kill { ({ s with worth:=ups2 s.worth h b.id none }:CS) with clock:=_ } b).hosts=_
 rw [e]
 exact gone_hosts (s:={ s with worth:=ups2 s.worth h b.id none }) (k.w.unworth h b.id) (k.t.unworth h b.id) hb
theorem up_iff {h:Int}:s.up h=true↔s.hThere h=true∧(s.hosts h.toNat).draining=false:=by
 unfold CS.up; simp [Bool.and_eq_true]
theorem evict1_room (k:Ok s) {h:Int} {w:Int × Int} {b:Box} (hw:s.worth h b.id=some w) (hb:b∈s.boxes) (hu:s.up h=true) :
  ((evS s h w b).kill b).up h=true∧((evS s h w b).kill b).free h=s.free h+b.mem∧((evS s h w b).kill b).loose h=s.loose h-b.mem∧((evS s h w b).kill b).boxes.length+1=s.boxes.length:=by
 obtain ⟨e1,e2,e3⟩:=cand_host k hw hb
 have hh:=evict1_hosts k hw hb
 obtain ⟨h1,h2⟩:=up_iff.1 hu
 have h3:=hThere_iff.1 h1
 subst e1
 have hsw:swept { s.hosts b.host.toNat with used:=(s.hosts b.host.toNat).used-b.mem }={ s.hosts b.host.toNat with used:=(s.hosts b.host.toNat).used-b.mem }:=by
  unfold CS.swept; rw [if_neg (by simp [h2])]
 rw [hsw] at hh
 have hu0:(upn s.hosts b.host.toNat { s.hosts b.host.toNat with used:=(s.hosts b.host.toNat).used-b.mem }) b.host.toNat={ s.hosts b.host.toNat with used:=(s.hosts b.host.toNat).used-b.mem }:=by unfold upn; rw [if_pos rfl]
 have ht:((evS s b.host w b).kill b).hThere b.host=true:=by
  rw [hThere_iff,hh,hu0]; exact h3
 have hbx:((evS s b.host w b).kill b).boxes=s.boxes.filter fun x=>x.id != b.id:=(kill_boxes (evS s b.host w b) b).1
 refine ⟨?_,?_,?_,?_⟩
 ·rw [up_iff,hh,hu0]; exact ⟨ht,h2⟩
 ·unfold CS.free
  rw [if_pos ht,if_pos h1,hh,hu0]
  simp only; omega
 ·rw [loose_eq,loose_eq,hbx,wsum_filter k.w.b.1 hb]
  have:looseG b.host b=b.mem:=by unfold looseG; rw [if_pos ⟨rfl,e2,e3⟩]
  omega
 ·rw [hbx]; exact pairwise_filter_len k.w.b.1 hb
theorem cand_some (k:Ok s) {h:Int} (hl:0<s.loose h):s.cands h≠[]:=by
 intro he
 have : ∀ b∈s.boxes,looseG h b=0:=by
  intro b hb
  unfold looseG
  split
  ·rename_i hc
   obtain ⟨w,hw⟩:=(k.t.w b hb (fun h=>h)).2 hc.2
   have:(w,b.id)∈s.cands h:=by
    unfold CS.cands
    rw [List.mem_filterMap]
    exact ⟨b,hb,by rw [hc.1] at hw; rw [hw]; rfl⟩
   rw [he] at this; cases this
  ·rfl
 rw [loose_eq] at hl
 have hz:wsum (looseG h) s.boxes=0:=by
  clear hl he
  generalize s.boxes=l at this
  induction l with
  | nil=>rfl
  | cons x r ih =>
   simp only [wsum]
   rw [this x (List.mem_cons_self ..),ih fun b hb=>this b (List.mem_cons_of_mem _ hb)]; rfl
 omega
theorem Ok.evict (h mem:Int) : ∀ n {s:CS},Ok s→Ok (s.evict h mem n):=by
 intro n
 induction n with
 | zero=>intro s k; exact k
 | succ n ih =>
  intro s k
  simp only [CS.evict]
  split
  ·split
   ·exact k
   ·rename_i w id hbest
    split
    ·exact k
    ·rename_i b hfind
     have hb:=find_some hfind
     have hc:=cands_mem (best_mem hbest)
     obtain rfl:=hb.2
     exact ih (k.evict1 hc.1 hb.1)
  ·exact k
theorem evict_free (h mem:Int) : ∀ n {s:CS},Ok s→s.up h=true→mem≤s.free h+s.loose h→s.boxes.length≤n→(s.evict h mem n).up h=true∧mem≤(s.evict h mem n).free h:=by
 intro n
 induction n with
 | zero =>
  intro s k hu hm hl
  have:s.boxes=[]:=List.eq_nil_of_length_eq_zero (by omega)
  have e:s.loose h=0:=by rw [loose_eq,this]; rfl
  exact ⟨hu,by show mem≤s.free h; omega⟩
 | succ n ih =>
  intro s k hu hm hl
  simp only [CS.evict]
  split
  ·rename_i hlt
   have hc:=cand_some k (h:=h) (by omega)
   split
   ·rename_i hb; exact absurd (best_none.1 hb) hc
   ·rename_i w id hbest
    have hcm:=cands_mem (best_mem hbest)
    split
    ·rename_i hf
     obtain ⟨b,hb,e⟩:=hcm.2
     exact absurd e (find_none hf b hb)
    ·rename_i b hfind
     have hb:=find_some hfind
     obtain rfl:=hb.2
     obtain ⟨r1,r2,r3,r4⟩:=evict1_room k hcm.1 hb.1 hu
     exact ih (k.evict1 hcm.1 hb.1) r1 (by rw [r2,r3]; omega) (by rw [← r4] at hl; exact Nat.le_of_succ_le_succ hl)
  ·exact ⟨hu,by omega⟩
theorem fit_free {mem h:Int} (hh:s.fit mem=some h):s.up h=true∧mem≤s.free h:=⟨(fit_bd hh).2.1,(fit_bd hh).2.2.2⟩
theorem Ok.room (k:Ok s) (mem:Int):Ok (s.room mem).1 ∧ ∀ h,(s.room mem).2=some h→(0≤h∧h<32)∧(s.room mem).1.up h=true∧mem≤(s.room mem).1.free h:=by
 unfold CS.room
 cases hf:s.fit mem with
 | some h =>
  refine ⟨k,fun h' e=>?_⟩
  simp only [Option.some.injEq] at e
  subst e
  exact ⟨(fit_bd hf).1,fit_free hf⟩
 | none =>
  simp only
  cases hr:(List.range 32).find? fun (h:Nat)=>s.up (h:Int)&&decide (mem≤s.free (h:Int)+s.loose (h:Int)) with
  | none=>exact ⟨k,fun h e=>by cases e⟩
  | some h =>
   refine ⟨k.evict _ _ _,fun h' e=>?_⟩
   simp only [Option.some.injEq] at e
   subst e
   have h1:=List.mem_of_find?_eq_some hr
   have h2:=List.find?_some hr
   simp only [Bool.and_eq_true,decide_eq_true_eq] at h2
   simp only [List.mem_range] at h1
   exact ⟨by omega,evict_free _ mem _ k h2.1 h2.2 (Nat.le_refl _)⟩
theorem Ok.unpin (k:Ok s) {b:Box} (hb:b∈s.boxes) (hp:b.pinned=true) (f:Int):Ok (s.unpin f b):=⟨k.w.unpin hb f,k.t.unpin k.w hb hp f,k.o.unpin k.w hb f⟩
theorem Ok.pin (k:Ok s) {b:Box} (hb:b∈s.boxes):Ok (s.pin b):=⟨k.w.pin hb,k.t.pin k.w hb (fun _ h=>h.elim),k.o.pin⟩
theorem Ok.kill (k:Ok s) {b:Box} (hb:b∈s.boxes):Ok (s.kill b):=⟨k.w.kill hb,k.t.kill k.w hb (fun _ h=>h.elim),k.o.kill k.w hb⟩
theorem Ok.start (k:Ok s) {f h:Int} {x:Fnc} (hx:s.fns f=some x) (hh:0≤h∧h<32) (hu:s.up h=true) (hf:x.mem≤s.free h):Ok (s.start f h).1∧(s.start f h).2∈(s.start f h).1.boxes :=
 ⟨⟨(k.w.start hx hh).1,k.t.start k.w hx hu hf,k.o.start f h⟩,(k.w.start hx hh).2⟩
end
end Gh

namespace Go.Ab
open Go Gh
variable {P : Program} {F : Nums}
theorem core_pinned_1_c (G:Good P F) {n:Nm} {b:Box} {H:AH} (hb:H.f n=some (.row 8 (cs (boxC b)))) {nf:Nm} {f:Int} (hf:H.f nf=some (.row 1 (cs [i64 f]))) :
  ACalls P F.core_pinned_1 [.ptr n 0,.ptr nf 0] H (fun v H'=>v=.bool (b.fn==f&&b.pinned)∧Same H H'):=by
 refine fn_rule G.mixed G.core_pinned_1 rfl [] (fun hcl=>?_)
 simp only [go_sem,hb,hf]
 refine EI_i (fun d=>?_) (fun d=>?_)
 ·simp only [go_sem,d,hb]
  exact ⟨by rw [Bool.true_and],Same.mk1⟩
 ·simp only [go_sem,d]
  exact ⟨by rw [Bool.false_and],Same.mk1⟩
theorem core_pinned_c (E:Env P F) {c:Nat} {s:CS} {o:AV} {H:AH} (hw:WF s) (hfew:Few s) (hc:CoreAt F c o s H) {f:Int} :
  ACalls P F.core_pinned [.ptr (nC c) 0,i64 f] H (fun v H'=>IdsAt v ((s.pinned f).map Box.id) H'∧Same H H' ∧ ∀ q,inSl v q→H.k≤q.i):=by
 refine fn_rule E.g.mixed E.g.core_pinned rfl [] (fun hcl=>?_)
 have hi:=ids_ok hw hfew
 have hs0:Same H (bmp 1 ((⟨H.f,H.k,[]⟩:AH).set ⟨0,H.k,0⟩ (.row 1 (cs [i64 f])))):=(Same.mk1.tmp).bmp
 have hc0:=hc.same hs0
 simp only [go_sem]
 refine CA_s [] (core_where_c E (s:=s) (o:=o) (boxes:=s.boxes) (p:=fun b=>b.fn==f&&b.pinned) hc0.core hc0.boxes.map hi ?_) ?_
 ·intro b hb H' hs'
  exact core_pinned_1_c E.g ((hc0.same hs').boxes.row b hb) (by rw [hs'.at_ _ (fun _=>by show H.k<H.k+1; omega)]; simp only [go_sem])
 rintro v H1 ⟨hv,hs1,hq⟩ _ _
 simp only [go_sem]
 refine ⟨hv,(hs0.trans hs1).mk',fun q h=>?_⟩
 have:=hq q h
 have:H.k+1≤q.i:=this
 omega
theorem core_spare_1_c (G:Good P F) {c:Nat} {s:CS} {o:AV} {H:AH} (hw:WF s) (hc:CoreAt F c o s H) {b:Box} (hb:b∈s.boxes) {nf ns nc:Nm} {f st:Int} (hf:H.f nf=some (.row 1 (cs [i64 f]))) (hs:H.f ns=some (.row 1 (cs [i64 st]))) (hn:H.f nc=some (.row 1 (cs [.ptr (nC c) 0]))) :
  ACalls P F.core_spare_1 [.ptr (nBox c b.id) 0,.ptr nf 0,.ptr ns 0,.ptr nc 0] H (fun v H'=>v=.bool (b.fn==f && !b.pinned&&b.st==st&&s.up b.host)∧Same H H'):=by
 refine fn_rule G.mixed G.core_spare_1 rfl [] (fun hcl=>?_)
 have hbr:=hc.boxes.row b hb
 have hcr:=hc.core
 simp only [go_sem,hbr,hf]
 refine EI_i (fun d=>?_) (fun d=>?_)
 ·simp only [go_sem,d,hbr]
  refine EI_i (fun d2=>?_) (fun d2=>?_)
  ·simp only [go_sem,d,hbr,hs,d2]
   refine EI_i (fun d3=>?_) (fun d3=>?_)
   ·simp only [go_sem,d,hbr,hn,hcr,d2,d3]
    refine CA_s [] (host_Up_c G (n:=nHosts c) tg_ne0 s (h:=b.host) (H:=⟨H.f,H.k,[]⟩) hc.hosts) ?_
    rintro _ H1 ⟨rfl,hs1⟩ _ _
    simp only [go_sem]
    exact ⟨by rw [d,d2,d3]; simp,hs1.of_mk.mk'⟩
   ·simp only [go_sem,d,d2,d3]
    exact ⟨by simp,Same.mk1⟩
  ·simp only [go_sem,d,d2]
   exact ⟨by simp,Same.mk1⟩
 ·simp only [go_sem,d]
  exact ⟨by simp,Same.mk1⟩
def spS (s:CS) (f st:Int):List Box:=s.boxes.filter fun b=>b.fn==f && !b.pinned&&b.st==st&&s.up b.host
def sts (i:Nat):Int:=if i=0 then 1 else if i=1 then 0 else 2
theorem spare_eq {s:CS} {f:Int}:s.spare f=(((spS s f 1).head?).or (spS s f 0).head?).or (spS s f 2).head? := rfl
theorem core_spare_c (E:Env P F) {c:Nat} {s:CS} {o:AV} {H:AH} (hw:WF s) (hfew:Few s) (hc:CoreAt F c o s H) {f:Int} :
  ACalls P F.core_spare [.ptr (nC c) 0,i64 f] H (fun v H'=>v=boxP c (s.spare f)∧Same H H'):=by
 refine fn_rule E.g.mixed E.g.core_spare rfl [] (fun hcl=>?_)
 have hi:=ids_ok hw hfew
 have n1:(⟨0,H.k,0⟩:Nm)≠⟨0,H.k,1⟩:=tmp_ne (by decide)
 have n2 : ∀ q,(⟨0,H.k,q⟩:Nm)≠⟨0,H.k+1,0⟩:=fun q=>tmp_nei (by omega)
 simp only [go_sem,n1,n1.symm]
 generalize hH1:(bmp 1 ((bmp 2 (((⟨H.f,H.k,[]⟩:AH).set ⟨0,H.k,0⟩ (.row 1 (cs [.ptr (nC c) 0]))).set ⟨0,H.k,1⟩ (.row 1 (cs [i64 f])))).set ⟨0,H.k+1,0⟩ (.row 3 (cs [i64 1,i64 0,i64 2]))))=H1
 have hs1:Same H H1:=by
  rw [← hH1]
  have a:=((((Same.mk' (s:=([]:List Nm)) (Same.refl H)).set (nold (Int.le_refl _)) (n:=⟨0,H.k,0⟩) (o:=.row 1 (cs [.ptr (nC c) 0]))).set (nold (Int.le_refl _)) (n:=⟨0,H.k,1⟩) (o:=.row 1 (cs [i64 f]))).bmp (c:=2))
  exact (a.set (nold (q:=0) (i:=H.k+1) (by omega)) (o:=.row 3 (cs [i64 1,i64 0,i64 2]))).bmp
 have k1:H1.k=H.k+2:=by rw [← hH1]; simp only [go_sem]; omega
 have b0:H1.f ⟨0,H.k,0⟩=some (.row 1 (cs [.ptr (nC c) 0])):=by rw [← hH1]; simp only [go_sem,n1,n2]
 have b1:H1.f ⟨0,H.k,1⟩=some (.row 1 (cs [i64 f])):=by rw [← hH1]; simp only [go_sem,n2]
 have b2:H1.f ⟨0,H.k+1,0⟩=some (.row 3 (cs [i64 1,i64 0,i64 2])):=by rw [← hH1]; simp only [go_sem]
 refine C_loop (fun k l' H' => ∃ i:Nat,i+k=3∧(∀ j,j<i→spS s f (sts j)=[])∧Same H1 H'∧l'=[(2,.ptr ⟨0,H.k,0⟩ 0),(3,.ptr ⟨0,H.k,1⟩ 0),(8,.slice ⟨0,H.k+1,0⟩ 1 0 3),(9,i64 3),(10,i64 i)]) 3 ⟨0,by omega,fun j h=>by omega,Same.refl _,rfl⟩ ?_
 rintro k _ H2 ⟨i,hik,hno,h2,rfl⟩ _ _
 refine ⟨[],?_⟩
 have hs2:=hs1.trans h2
 have c0:H2.f ⟨0,H.k,0⟩=_:=h2.some (fun _=>by show H.k<H1.k; omega) b0
 have c1:H2.f ⟨0,H.k,1⟩=_:=h2.some (fun _=>by show H.k<H1.k; omega) b1
 have c2:H2.f ⟨0,H.k+1,0⟩=_:=h2.some (fun _=>by show H.k+1<H1.k; omega) b2
 have hk2:H1.k≤H2.k:=h2.k
 simp only [go_sem]
 refine EI_i (fun d=>?_) (fun d=>?_)
 ·have d:i<3:=by simp at d; omega
  have i0:(0:Int)≤(i:Int):=by omega
  have i1:(i:Int)<3:=by omega
  have m1:(⟨0,H.k,0⟩:Nm)≠⟨0,H2.k,0⟩:=tmp_nei (by omega)
  have g1:cs [i64 1,i64 0,i64 2] i=i64 (sts i):=by
   have:i=0∨i=1∨i=2:=by omega
   rcases this with rfl | rfl | rfl <;> rfl
  have g1' : [i64 1,i64 0,i64 2].getD i .any=i64 (sts i):=g1
  simp only [go_sem,i0,i1,Int.toNat_natCast,Nat.mul_one,c2,d,g1',c0,m1]
  have hs3:Same H2 (bmp 1 ((⟨H2.f,H2.k,[]⟩:AH).set ⟨0,H2.k,0⟩ (.row 1 (cs [i64 (sts i)])))):=(Same.mk1.tmp).bmp
  have hc3:=hc.same (hs2.trans hs3)
  refine CA_s [] (core_where_c E (s:=s) (o:=o) (boxes:=s.boxes) (p:=fun b=>b.fn==f && !b.pinned&&b.st==sts i&&s.up b.host) hc3.core hc3.boxes.map hi ?_) ?_
  ·intro b hb H' hs'
   have e1 : ∀ {q o},H2.f ⟨0,H.k,q⟩=some o→H'.f ⟨0,H.k,q⟩=some o:=fun {q o} h=>(hs3.trans hs').some (fun _=>by show H.k<H2.k; omega) h
   exact core_spare_1_c E.g hw (hc3.same hs') hb (e1 c1) (by rw [hs'.at_ _ (fun _=>by show H2.k<H2.k+1; omega)]; simp only [go_sem]) (e1 c0)
  rintro v H4 ⟨hv,hs4,hq⟩ _ _
  have hs4':=hs3.trans hs4
  have hl:(s.boxes.filter fun b=>b.fn==f && !b.pinned&&b.st==sts i&&s.up b.host)=spS s f (sts i):=rfl
  rw [hl] at hv
  have w1:=wrapS (i:=i) (by omega)
  have d0:H4.f ⟨0,H.k,0⟩=_:=hs4'.some (fun _=>by show H.k<H2.k; omega) c0
  rcases hv with ⟨e0,rfl⟩ | ⟨m,cc,g,ma,mb,rfl,mc,md,me⟩
  ·have e0:spS s f (sts i)=[]:=by simpa using e0
   simp only [go_sem]
   refine EI_i (fun d=>by simp at d) (fun _=>?_)
   simp only [go_sem,w1]
   refine ⟨k-1,_,rfl,by omega,i+1,by omega,fun j hj=>?_,(h2.trans hs4').mk',rfl⟩
   by_cases e:j=i
   ·rw [e]; exact e0
   ·exact hno j (by omega)
  ·rw [List.length_map] at mc me
   simp only [go_sem,List.length_map]
   refine EI_i (fun dd=>?_) (fun dd=>?_)
   ·have dd:0<(spS s f (sts i)).length:=by simpa using dd
    obtain ⟨b,r,hbr⟩ : ∃ b r,spS s f (sts i)=b::r:=by
     cases h:spS s f (sts i) with
     | nil=>rw [h] at dd; simp at dd
     | cons b r=>exact ⟨b,r,rfl⟩
    have hbm:b∈s.boxes:=(List.mem_filter.1 (show b∈spS s f (sts i) by rw [hbr]; exact List.mem_cons_self ..)).1
    have hc4:=hc.same (hs2.trans hs4')
    have g0:g 0=i64 b.id:=by rw [me 0 dd,hbr]; rfl
    have pm:ptrMap (nBox c) (findB s.boxes) [b.id]=some (.ptr (nBox c b.id) 0):=by
     show (findB s.boxes b.id).map _=_
     rw [findB_mem hi hbm]; rfl
    have j1:(0:Int)<((spS s f (sts i)).length:Int):=by omega
    have j2:0<cc:=by omega
    simp only [go_sem,d0,hc4.core,hc4.boxes.map,Int.le_refl,j1,Int.toNat_zero,Nat.zero_mul,Nat.mul_one,md,j2,g0,pm,List.length_map]
    refine ⟨?_,(hs2.trans hs4').mk'⟩
    have:s.spare f=some b:=by
     rw [spare_eq]
     have hz : ∀ j,j<i→spS s f (sts j)=[]:=hno
     have:i=0∨i=1∨i=2:=by omega
     rcases this with rfl | rfl | rfl
     ·rw [show spS s f 1=b::r from hbr]; rfl
     ·rw [show spS s f 1=[] from hz 0 (by omega),show spS s f 0=b::r from hbr]; rfl
     ·rw [show spS s f 1=[] from hz 0 (by omega),show spS s f 0=[] from hz 1 (by omega),show spS s f 2=b::r from hbr]; rfl
    rw [this]; rfl
   ·have e0:spS s f (sts i)=[]:=by
     have:(spS s f (sts i)).length=0:=by simp at dd; simp [dd]
     exact List.eq_nil_of_length_eq_zero this
    simp only [go_sem,w1]
    refine ⟨k-1,_,rfl,by omega,i+1,by omega,fun j hj=>?_,(h2.trans hs4').mk',rfl⟩
    by_cases e:j=i
    ·rw [e]; exact e0
    ·exact hno j (by omega)
 ·have d:i=3:=by simp at d; omega
  subst d
  simp only [go_sem]
  refine ⟨?_,hs2.mk'⟩
  rw [spare_eq,show spS s f 1=[] from hno 0 (by omega),show spS s f 0=[] from hno 1 (by omega),show spS s f 2=[] from hno 2 (by omega)]; rfl
end Go.Ab

namespace Go.Ab
open Go Gh
variable {P : Program} {F : Nums}
theorem wLt_wm {a b:(Int × Int) × Int}:CS.wLt a b=wmLt (a.1.1,a.1.2,a.2) (b.1.1,b.1.2,b.2):=rfl
theorem cand_best {s:CS} (k:Ok s) (hfew:Few s) {h:Int} {x:Mk} (hx:cacheMap (s.worth h) (wmK x)=some x) (hmin : ∀ k y,cacheMap (s.worth h) k=some y→wmLt y x=false) :
  ∃ b,b∈s.boxes∧b.id=x.2.2∧s.worth h b.id=some (x.1,x.2.1)∧CS.best CS.wLt (s.cands h)=some ((x.1,x.2.1),b.id):=by
 have hwx:s.worth h x.2.2=some (x.1,x.2.1):=by
  have:(s.worth h x.2.2).map (fun w=>((w.1,w.2,x.2.2):Mk))=some x:=hx
  cases hw:s.worth h x.2.2 with
  | none=>rw [hw] at this; cases this
  | some w =>
   rw [hw] at this
   simp only [Option.map_some,Option.some.injEq] at this
   rw [← this]
 obtain ⟨_,b,hb,e,hh⟩:=k.w.w.1 h _ _ hwx
 refine ⟨b,hb,e,by rw [e]; exact hwx,?_⟩
 have hV:=worth_WV (s:=s) (k:=s.clock) k.w hfew h
 have hc : ∀ a,a∈s.cands h→s.worth h a.2=some a.1∧WV (a.1.1,a.1.2,a.2)∧cacheMap (s.worth h) [a.2]=some (a.1.1,a.1.2,a.2):=by
  rintro ⟨w,id⟩ ha
  have h1:=(cands_mem ha).1
  have h2:cacheMap (s.worth h) [id]=some (w.1,w.2,id):=by show (s.worth h id).map _=_; rw [h1]; rfl
  exact ⟨h1,hV _ _ h2,h2⟩
 have hm:(((x.1,x.2.1),b.id):(Int × Int) × Int)∈s.cands h:=by
  unfold CS.cands
  rw [List.mem_filterMap]
  exact ⟨b,hb,by rw [e,hwx]; rfl⟩
 refine best_of (fun a b c ha hb hc' h1 h2=>?_) (fun a b ha hb h1=>?_) hm (fun y hy=>?_) (fun y hy h1 h2=>?_)
 ·rw [wLt_wm,← wmLu_eq (hc _ ha).2.1 (hc _ hb).2.1] at h1
  rw [wLt_wm,← wmLu_eq (hc _ hb).2.1 (hc _ hc').2.1] at h2
  rw [wLt_wm,← wmLu_eq (hc _ ha).2.1 (hc _ hc').2.1]
  exact wmOrd.nt _ _ _ h1 h2
 ·rw [wLt_wm,← wmLu_eq (hc _ ha).2.1 (hc _ hb).2.1] at h1
  rw [wLt_wm,← wmLu_eq (hc _ hb).2.1 (hc _ ha).2.1]
  exact wmOrd.asym h1
 ·have:=hmin _ _ (hc y hy).2.2
  rw [wLt_wm,e]; exact this
 ·have hid:y.2=b.id:=by
   unfold CS.wLt at h1 h2
   simp only [Bool.or_eq_false_iff,Bool.and_eq_false_iff,decide_eq_false_iff_not] at h1 h2
   rcases h1.2 with h3 | h3
   ·rcases h2.2 with h4 | h4
    ·omega
    ·omega
   ·rcases h2.2 with h4 | h4
    ·omega
    ·omega
  have h3:=(hc y hy).1
  rw [hid,e,hwx] at h3
  obtain ⟨⟨y1,y2⟩,y3⟩:=y
  simp only [Option.some.injEq,Prod.mk.injEq] at h3 hid ⊢
  exact ⟨⟨h3.1.symm,h3.2.symm⟩,hid⟩
theorem evict_step {s:CS} {h mem:Int} {n:Nat} {w:Int × Int} {b:Box} (hl:s.free h<mem) (hb:CS.best CS.wLt (s.cands h)=some (w,b.id)) (hf:s.find b.id=some b) :
  s.evict h mem (n+1)=((evS s h w b).kill b).evict h mem n:=by
 conv=>lhs; unfold CS.evict
 rw [if_pos hl,hb]
 simp only [hf]
theorem evict_stay {s:CS} {h mem:Int} {n:Nat} (hl : ¬ s.free h<mem):s.evict h mem n=s:=by
 cases n with
 | zero=>rfl
 | succ n=>unfold CS.evict; rw [if_neg hl]
theorem core_room_c (E:Env P F) {c:Nat} {s:CS} {o:AV} {H:AH} (k:Ok s) (hn:s.next≤1000000000) (hc:CoreAt F c o s H) {mem:Int} :
  ACalls P F.core_room [.ptr (nC c) 0,i64 mem] H (fun v H'=>(∃ w,v=.tup [i64 w,.bool (s.room mem).2.isSome] ∧ ∀ h,(s.room mem).2=some h→w=h) ∧ ∃ o',CStep F c o H o' (s.room mem).1 H'):=by
 refine fn_rule E.g.mixed E.g.core_room rfl [] (fun hcl=>?_)
 have hw:=k.w
 have hfew:Few s:=by unfold Few; omega
 have hi:=ids_ok hw hfew
 have hcr:=hc.core
 simp only [go_sem,hcr]
 refine CA_s [] (host_Fit_c E.g (n:=nHosts c) tg_ne0 s (mem:=mem) (H:=⟨H.f,H.k,[]⟩) hc.hosts hw.h) ?_
 rintro _ H1 ⟨⟨w,rfl,hwf⟩,hs1⟩ _ _
 have hs1:Same H H1:=hs1.of_mk
 simp only [go_sem]
 cases hft:s.fit mem with
 | some h =>
  have:=hwf h hft
  subst this
  simp only [go_sem,Option.isSome_some]
  have e:s.room mem=(s,some w):=by unfold CS.room; rw [hft]
  rw [e]
  exact ⟨⟨w,rfl,fun h e=>by simpa using e⟩,o,(CStep.in_ (hc.same hs1) hs1.fra).mk'⟩
 | none =>
 simp only [go_sem,Option.isSome_none]
 have hroom:s.room mem=match (List.range 32).find? fun (h:Nat)=>s.up (h:Int)&&decide (mem≤s.free (h:Int)+s.loose (h:Int)) with
  | none=>(s,none)
  | some h=>(s.evict h mem s.boxes.length,some (h:Int)):=by unfold CS.room; rw [hft]; rfl
 refine C_loop (fun k l' H' => ∃ i:Nat,i+k=32∧(∀ j:Nat,j<i→(s.up (j:Int)&&decide (mem≤s.free (j:Int)+s.loose (j:Int)))=false)∧Same H H'∧l'=[(0,.ptr (nC c) 0),(1,i64 mem),(25,i64 i)]) 32 ⟨0,by omega,fun j h=>by omega,hs1.mk',rfl⟩ ?_
 rintro kk _ H2 ⟨i,hik,hno,hs2,rfl⟩ _ _
 refine ⟨[],?_⟩
 simp only [go_sem]
 refine EI_i (fun d=>?_) (fun d=>?_)
 rotate_left
 ·have d:i=32:=by simp at d; omega
  subst d
  have e:s.room mem=(s,none):=by
   rw [hroom]
   have:((List.range 32).find? fun (h:Nat)=>s.up (h:Int)&&decide (mem≤s.free (h:Int)+s.loose (h:Int)))=none:=by
    rw [List.find?_eq_none]
    intro j hj
    rw [List.mem_range] at hj
    rw [hno j hj]; simp
   rw [this]
  simp only [go_sem]
  rw [e]
  exact ⟨⟨0,rfl,fun h e=>by cases e⟩,o,(CStep.in_ (hc.same hs2) hs2.fra).mk'⟩
 have d:i<32:=by simp at d; omega
 have hc2:=hc.same hs2
 have q1 : ∀ q,nC c≠⟨0,H2.k,q⟩:=fun q e=>tg_ne0 (congrArg Nm.t e)
 have hsb:Same H2 (bmp 1 ((⟨H2.f,H2.k,[]⟩:AH).set ⟨0,H2.k,0⟩ (.row 1 (cs [i64 (i:Int)])))):=(Same.mk1.tmp).bmp
 have hc3:=hc2.same hsb
 have hcr2:=hc2.core
 have next : ∀ {H':AH} {r:List (Nat × AV)},(s.up (i:Int)&&decide (mem≤s.free (i:Int)+s.loose (i:Int)))=false→Same H2 H' →
   ∃ n' l'',fr ((0,.ptr (nC c) 0)::(1,i64 mem)::(25,i64 ((i+1:Nat):Int))::r)=fr l''∧n'<kk ∧ ∃ j:Nat,j+n'=32∧(∀ x:Nat,x<j→(s.up (x:Int)&&decide (mem≤s.free (x:Int)+s.loose (x:Int)))=false)∧Same H H'∧l''=(0,.ptr (nC c) 0)::(1,i64 mem)::(25,i64 j)::r :=
  fun h1 h2=>⟨kk-1,_,rfl,by omega,i+1,by omega,fun x hx=>by
   by_cases e:x=i
   ·rw [e]; exact h1
   ·exact hno x (by omega),hs2.trans h2,rfl⟩
 have w1:=wrapS (i:=i) (by omega)
 simp only [go_sem,hcr2,q1]
 refine CA_s [] (host_Up_c E.g (n:=nHosts c) tg_ne0 s (h:=(i:Int)) (H:=bmp 1 ((⟨H2.f,H2.k,[]⟩:AH).set ⟨0,H2.k,0⟩ (.row 1 (cs [i64 (i:Int)])))) hc3.hosts) ?_
 rintro _ H3 ⟨rfl,hs3⟩ hk3 _
 have hk3:H2.k+1≤H3.k:=hk3
 have hb3:H3.f ⟨0,H2.k,0⟩=some (.row 1 (cs [i64 (i:Int)])):=hs3.some (fun _=>by show H2.k<H2.k+1; omega) (by simp only [go_sem])
 have hs3:=hsb.trans hs3
 have hc3:=hc2.same hs3
 have hcr3:=hc3.core
 simp only [go_sem]
 refine EI_i (fun du=>?_) (fun du=>?_)
 ·have du:s.up (i:Int)=false:=by simpa using du
  simp only [go_sem,w1]
  exact next (r:=[]) (by rw [du]; rfl) hs3.mk'
 have du:s.up (i:Int)=true:=by simpa using du
 simp only [go_sem,hcr3,hb3]
 refine CA_s [] (host_Free_c E.g (n:=nHosts c) tg_ne0 s (h:=(i:Int)) (H:=⟨H3.f,H3.k,[]⟩) hc3.hosts hw.h) ?_
 rintro _ H4 ⟨rfl,hs4⟩ _ _
 have hs4:Same H3 H4:=hs4.of_mk
 have hb4:=hs4.some (fun _=>by show H2.k<H3.k; omega) hb3
 have hs4':=hs3.trans hs4
 have hc4:=hc2.same hs4'
 simp only [go_sem]
 refine CA_s [] (core_where_c E (s:=s) (o:=o) (boxes:=s.boxes) (p:=fun b=>b.host==(i:Int)&&b.idle && !b.pinned) (H:=⟨H4.f,H4.k,[]⟩) hc4.core hc4.boxes.map hi ?_) ?_
 ·intro b hb H' hs'
  have hs'':Same H4 H':=hs'.of_mk
  exact core_room_1_c E.g tg_ne0 ((hc4.same hs'').boxes.row b hb) (hs''.some (fun _=>by have:=hs4.k; show H2.k<H4.k; omega) hb4)
 rintro v H5 ⟨hv,hs5,hq⟩ _ _
 have hs5:Same H4 H5:=hs5.of_mk
 have hb5:=hs5.some (fun _=>by have:=hs4.k; show H2.k<H4.k; omega) hb4
 have hs5':=hs4'.trans hs5
 have hc5:=hc2.same hs5'
 have hloose:s.loose (i:Int)=CS.sumL ((s.boxes.filter fun b=>b.host==(i:Int)&&b.idle && !b.pinned).map fun b=>b.mem):=rfl
 have hfree:0≤s.free (i:Int)∧s.free (i:Int)≤4096:=by
  have:=hw.h (i:Int).toNat
  unfold WMach at this
  unfold CS.free
  split <;> omega
 have hsub : ∀ b,b∈(s.boxes.filter fun b=>b.host==(i:Int)&&b.idle && !b.pinned)→b∈s.boxes:=fun b hb=>(List.mem_filter.1 hb).1
 have hlen:(s.boxes.filter fun b=>b.host==(i:Int)&&b.idle && !b.pinned).length≤s.boxes.length:=List.length_filter_le ..
 have hl:=hi.l
 generalize hgl:(s.boxes.filter fun b=>b.host==(i:Int)&&b.idle && !b.pinned)=bl at hv hsub hlen hloose
 have hvl:lenV v=some (i64 (bl.length:Int)):=by
  rcases hv with ⟨e,rfl⟩ | ⟨m,cc,g,_,_,rfl,_⟩
  ·have:bl=[]:=by simpa using e
   rw [this]; rfl
  ·simp only [lenV,List.length_map]
 have hsum : ∀ j:Nat,j≤bl.length→0≤CS.sumL ((bl.take j).map fun b=>b.mem)∧CS.sumL ((bl.take j).map fun b=>b.mem)≤4096*j:=by
  intro j hj
  induction j with
  | zero=>exact ⟨Int.le_refl _,Int.le_refl _⟩
  | succ j ih =>
   have ih:=ih (by omega)
   have hm:=hw.mem1 (hsub _ (List.getElem_mem (show j<bl.length by omega)))
   have e:CS.sumL ((bl.take (j+1)).map fun b=>b.mem)=CS.sumL ((bl.take j).map fun b=>b.mem)+(bl[j]'(by omega)).mem:=by
    rw [List.take_add_one,List.map_append,List.getElem?_eq_getElem (by omega)]
    unfold CS.sumL
    rw [List.foldl_append]
    rfl
   rw [e]; omega
 unfold lenV at hvl
 simp only [go_sem,hvl]
 refine C_loop (fun k l' H' => ∃ j:Nat,j+k=bl.length∧Same H5 H'∧l'=[(0,.ptr (nC c) 0),(1,i64 mem),(8,.ptr ⟨0,H2.k,0⟩ 0),(9,i64 (s.free (i:Int)+CS.sumL ((bl.take j).map fun b=>b.mem))),(25,i64 (i:Int)),(43,v),(44,i64 (bl.length:Int)),(45,i64 (j:Int))]) bl.length
  ⟨0,by omega,Same.mk1,by rw [show CS.sumL ((bl.take 0).map fun b=>b.mem)=0 from rfl,Int.add_zero]; rfl⟩ ?_
 rintro kj _ H6 ⟨j,hjk,hs6,rfl⟩ _ _
 refine ⟨[],?_⟩
 have hc6:=hc5.same hs6
 have hb6:=hs6.some (fun _=>by have h1:=hs4.k; have h2:=hs5.k; show H2.k<H5.k; omega) hb5
 have hs6':=hs5'.trans hs6
 have hsj:=hsum j (by omega)
 simp only [go_sem]
 refine EI_i (fun dj=>?_) (fun dj=>?_)
 ·have dj:j<bl.length:=by simp at dj; omega
  rcases hv with ⟨e,rfl⟩ | ⟨m,cc,g,m1,m2,rfl,m3,m4,m5⟩
  ·have:bl=[]:=by simpa using e
   rw [this] at dj; simp at dj
  rw [List.length_map] at m3 m5
  have i0:(0:Int)≤(j:Int):=by omega
  have i1:(j:Int)<(bl.length:Int):=by omega
  have i2:j<cc:=by omega
  have hbm:=hsub _ (List.getElem_mem dj)
  have g5:g j=i64 (bl[j]).id:=by rw [m5 j dj,List.getD_eq_getElem?_getD,List.getElem?_map,List.getElem?_eq_getElem dj]; rfl
  have pm:ptrMap (nBox c) (findB s.boxes) [(bl[j]).id]=some (.ptr (nBox c (bl[j]).id) 0):=by
   show (findB s.boxes (bl[j]).id).map _=_
   rw [findB_mem hi hbm]; rfl
  have hr6:=hc6.boxes.row _ hbm
  have hm6:H6.f m=some (.row cc g):=hs6.some (fun _=>m2) m4
  have hmm:=hw.mem1 hbm
  have wj:=wrapS (i:=j) (by omega)
  have e1:CS.sumL ((bl.take (j+1)).map fun b=>b.mem)=CS.sumL ((bl.take j).map fun b=>b.mem)+(bl[j]).mem:=by
   rw [List.take_add_one,List.map_append,List.getElem?_eq_getElem dj]
   unfold CS.sumL
   rw [List.foldl_append]
   rfl
  have w2:IntKind.i64.wrap (s.free (i:Int)+CS.sumL ((bl.take j).map fun b=>b.mem)+(bl[j]).mem)=s.free (i:Int)+CS.sumL ((bl.take (j+1)).map fun b=>b.mem):=by
   rw [e1,wrap64 (by omega) (by omega)]; omega
  simp only [go_sem,List.length_map,i0,i1,i2,Int.toNat_natCast,Nat.mul_one,hm6,g5,hc6.core,hc6.boxes.map,pm,hr6,w2,wj]
  exact ⟨kj-1,_,rfl,by omega,j+1,by omega,hs6.mk',rfl⟩
 have dj:j=bl.length:=by simp at dj; omega
 subst dj
 rw [List.take_length,← hloose] at hsj
 rw [List.take_length,← hloose]
 simp only [go_sem]
 refine EI_i (fun df=>?_) (fun df=>?_)
 ·have df : ¬ mem≤s.free (i:Int)+s.loose (i:Int):=by simp at df; omega
  simp only [go_sem,w1]
  exact next (r:=[]) (by simp [df]) hs6'.mk'
 have df:mem≤s.free (i:Int)+s.loose (i:Int):=by simp at df; omega
 have hres:s.room mem=(s.evict i mem s.boxes.length,some (i:Int)):=by
  rw [hroom]
  have:((List.range 32).find? fun (h:Nat)=>s.up (h:Int)&&decide (mem≤s.free (h:Int)+s.loose (h:Int)))=some i:=by
   rw [List.find?_range_eq_some]
   refine ⟨by simp [du,df],List.mem_range.2 d,fun j hj=>?_⟩
   rw [hno j hj]; rfl
  rw [this]
 refine C_loop (fun n l' H' => ∃ (s':CS) (o':AV) (r:List (Nat × AV)),Ok s'∧s'.next=s.next∧s'.up (i:Int)=true∧mem≤s'.free (i:Int)+s'.loose (i:Int)∧s'.boxes.length≤n∧s.evict i mem s.boxes.length=s'.evict i mem n∧CStep F c o H6 o' s' H'∧l'=(0,.ptr (nC c) 0)::(1,i64 mem)::(8,.ptr ⟨0,H2.k,0⟩ 0)::r) s.boxes.length
  ⟨s,o,_,k,rfl,du,df,Nat.le_refl _,rfl,(CStep.in_ hc6 (Fra.refl _ _)).mk',rfl⟩ ?_
 rintro n _ H7 ⟨s',o',r,k',hnx,hu',hf',hln,hev,h7,rfl⟩ _ _
 refine ⟨[],?_⟩
 have hc7:=h7.at_
 have hb7:H7.f ⟨0,H2.k,0⟩=some (.row 1 (cs [i64 (i:Int)])):=h7.tmp hc2.out (Int.le_refl _) (by have h1:=hs4.k; have h2:=hs5.k; have h3:=hs6.k; omega) hb6
 have hcr7:=hc7.core
 have hfew':Few s':=by unfold Few; omega
 simp only [go_sem,hcr7,hb7]
 refine CA_s [] (host_Free_c E.g (n:=nHosts c) tg_ne0 s' (h:=(i:Int)) (H:=⟨H7.f,H7.k,[]⟩) hc7.hosts k'.w.h) ?_
 rintro _ H8 ⟨rfl,hs8⟩ _ _
 have hs8:Same H7 H8:=hs8.of_mk
 have hc8:=hc7.same hs8
 have hcr8:=hc8.core
 have h8:CStep F c o H6 o' s' H8:=h7.trans (CStep.in_ hc8 hs8.fra)
 have hb8:H8.f ⟨0,H2.k,0⟩=some (.row 1 (cs [i64 (i:Int)])):=h8.tmp hc2.out (Int.le_refl _) (by have h1:=hs4.k; have h2:=hs5.k; have h3:=hs6.k; omega) hb6
 simp only [go_sem]
 refine EI_i (fun de=>?_) (fun de=>?_)
 ·have de:s'.free (i:Int)<mem:=by simpa using de
  simp only [go_sem,hcr8,hb8]
  refine CA_s [] (core_cache_c E.g (s:=s') (o:=o') (H:=⟨H8.f,H8.k,[]⟩) hcr8 (hc8.caches.congr fun _ _=>rfl) (h:=(i:Int))) ?_
  rintro _ H9 ⟨⟨g,mm,gen,gn,vn,rfl,hg,hO⟩,hf9⟩ _ _
  have hf9:Fra (cacT c) H8 H9:=hf9.of_mk
  have hc9:CoreAt F c o' s' H9:=hc8.caches' hf9 (fun n h=>h) hO.shut
  simp only [go_sem]
  refine CA_s [] (warm_Evict_c E.g (c:=c) (h:=(i:Int)) (g:=g) (H:=⟨H9.f,H9.k,[]⟩) (worth_WV (k:=s'.clock) k'.w hfew' (i:Int)) (hO.mk'.warm hg)) ?_
  rintro _ H10 ⟨hf10,hev10⟩ _ _
  have hf10:Fra (fun n=>warO F c (i:Int) g n∨n=nCache c (i:Int) g) H9 H10:=hf10.of_mk
  rcases hev10 with ⟨rfl,_,hno10⟩ | ⟨x,rfl,hx,hmin,hw10⟩
  ·exfalso
   have h0:0<s'.loose (i:Int):=by omega
   refine cand_some k' h0 ?_
   unfold CS.cands
   rw [List.filterMap_eq_nil_iff]
   intro b hb
   have:cacheMap (s'.worth (i:Int)) [b.id]=none:=hno10 _
   have:(s'.worth (i:Int) b.id).map (fun x=>((x.1,x.2,b.id):Mk))=none:=this
   cases hz:s'.worth (i:Int) b.id with
   | none=>rfl
   | some z=>rw [hz] at this; cases this
  obtain ⟨b,hbm,hbid,hwb,hbest⟩:=cand_best k' hfew' hx hmin
  have hca:CachesAt F c (ups2 s'.worth (i:Int) b.id none) (ups s'.clock (i:Int) (max (s'.clock (i:Int)) (x.1 / x.2.1))) H10:=hO.turn hg hf10 (by
   rw [cacheMap_ups,hbid]
   have:ups s'.clock (i:Int) (max (s'.clock (i:Int)) (x.1 / x.2.1)) (i:Int)=max (s'.clock (i:Int)) (x.1 / x.2.1):=by unfold ups; simp
   rw [this]
   exact hw10) (fun k hk=>⟨ups2_ne hk,by unfold ups; rw [if_neg hk]⟩)
  have hc10:=hc9.caches' (x:=ups2 s'.worth (i:Int) b.id none) (y:=ups s'.clock (i:Int) (max (s'.clock (i:Int)) (x.1 / x.2.1))) hf10 (fun n h=>cacO_t h) hca
  have hcr10:=hc10.core
  have pm:ptrMap (nBox c) (findB s'.boxes) [x.2.2]=some (.ptr (nBox c b.id) 0):=by
   show (findB s'.boxes x.2.2).map _=_
   rw [← hbid,findB_mem (ids_ok k'.w hfew') hbm]; rfl
  have hmp10:H10.f (nBoxes c)=_:=hc10.boxes.map
  have hout:s'.out.length<2147483648:=by
   have h1:=k'.o
   have h2:=k'.w.w.2.2
   unfold OB deads at *
   omega
  simp only [go_sem,hcr10,hmp10,pm,holdsOk_cons,gd_none,pureV,forall_const,fr_lkp]
  refine CA_s [] (core_kill_c E.g (s:=evS s' (i:Int) (x.1,x.2.1) b) (k:=s'.clock) (H:=⟨H10.f,H10.k,[]⟩) (k'.w.unworth (i:Int) b.id) hfew' hout hc10.mk' hbm) ?_
  rintro _ H11 ⟨o'',h11⟩ _ _
  have h11:CStep F c o' H10 o'' ((evS s' (i:Int) (x.1,x.2.1) b).kill b) H11:=h11.of_mk
  obtain ⟨r1,r2,r3,r4⟩:=evict1_room k' hwb hbm hu'
  obtain ⟨n,rfl⟩ : ∃ m,n=m+1:=⟨n-1,by have:0<s'.boxes.length:=List.length_pos_of_mem hbm; omega⟩
  simp only [go_sem]
  refine ⟨n,_,rfl,by omega,(evS s' (i:Int) (x.1,x.2.1) b).kill b,o'',_,k'.evict1 hwb hbm,?_,r1,by rw [r2,r3]; omega,?_,?_,?_,rfl⟩
  ·rw [(kill_boxes _ b).2.1]; exact hnx
  ·rw [← r4] at hln; exact Nat.le_of_succ_le_succ hln
  ·rw [hev,evict_step de hbest (k'.w.find hbm)]
  ·have a1:CStep F c o' H8 o' (evS s' (i:Int) (x.1,x.2.1) b) H10:=CStep.in_ hc10 ((hf9.mono fun n h=>ct_in n (cac_ct n h)).trans (hf10.mono fun n h=>ct_in n (cac_ct n (cacO_t h))))
   exact (h8.trans (a1.trans h11)).mk'
 ·have de : ¬ s'.free (i:Int)<mem:=by simp at de; omega
  simp only [go_sem,hb8]
  rw [hres]
  refine ⟨⟨(i:Int),rfl,fun h e=>by simpa using e⟩,o',?_⟩
  have e:s.evict i mem s.boxes.length=s':=by rw [hev,evict_stay de]
  show CStep F c o H o' (s.evict i mem s.boxes.length) _
  rw [e]
  exact ((CStep.in_ (hc2.same hs6') ((hs2.trans hs6').fra)).trans h8).mk'
end Go.Ab

namespace Go.Ab
open Go Gh
variable {P : Program} {F : Nums}
def revL (l:List Int):List (Int × Int):=(List.range l.length).map fun j=>(((l.length-1-j:Nat):Int),l.getD (l.length-1-j) 0)
theorem revL_at {l:List Int} {j:Nat} {x y:Int} (h:(revL l)[j]? = some (x,y)):j<l.length∧x=((l.length-1-j:Nat):Int)∧y=l.getD (l.length-1-j) 0:=by
 unfold revL at h
 rw [List.getElem?_map] at h
 cases hj:(List.range l.length)[j]? with
 | none=>rw [hj] at h; cases h
 | some k =>
  rw [hj] at h
  obtain ⟨h1,h2⟩:=List.getElem?_eq_some_iff.1 hj
  rw [List.getElem_range] at h2
  subst h2
  rw [List.length_range] at h1
  simp only [Option.map_some,Option.some.injEq,Prod.mk.injEq] at h
  exact ⟨h1,h.1.symm,h.2.symm⟩
theorem revL_len {l:List Int}:(revL l).length=l.length:=by unfold revL; simp
def BW (P:Program) (g:FuncId):Prop := ∀ (H:AH) (nb:Nm) (v:AV) (l:List Int),H.f nb=some (.row 1 (cs [v]))→IdsAt v l H→l.length<2147483648→Iter P g [.ptr nb 0] (fun n=>n=nb∨inSl v n) (revL l) H
structure EnvK (P:Program) (F:Nums):Prop where
 e:Env P F
 bw:BW P F.slices_Backward_1
theorem slices_Backward_c (G:Good P F) {v:AV} {l:List Int} {H0 H:AH} (hv:IdsAt v l H0) :
  ACalls P F.slices_Backward [v] H (fun r H'=>r=.fn F.slices_Backward_1 [.ptr ⟨0,H.k,0⟩ 0]∧H'.f ⟨0,H.k,0⟩=some (.row 1 (cs [v]))∧H.k+1≤H'.k∧Same H H'):=by
 refine fn_rule G.mixed G.slices_Backward rfl [] (fun hcl=>?_)
 rcases hv with ⟨_,rfl⟩ | ⟨m,cc,g,_,_,rfl,_⟩
 ·simp only [go_sem]
  exact ⟨by show H.k+1≤H.k+1; omega,(Same.mk1.tmp).bmp⟩
 ·simp only [go_sem]
  exact ⟨by show H.k+1≤H.k+1; omega,(Same.mk1.tmp).bmp⟩
section
variable {s : CS}
theorem unpin_keep {f:Int} {y b:Box} (hb:b∈s.boxes) (h:b.id≠y.id):b∈(s.unpin f y).boxes:=by
 have h1:b∈(s.setBox { y with pinned:=false }).boxes:=by
  simp only [CS.setBox,List.mem_map]
  exact ⟨b,hb,by simp [h]⟩
 unfold CS.unpin
 split
 ·unfold CS.idle
  dsimp only
  split
  ·rw [(kill_boxes _ _).1]
   exact List.mem_filter.2 ⟨h1,by simpa using h⟩
  ·exact h1
 ·exact h1
theorem pinned_sub {f:Int} {b:Box} (h:b∈s.pinned f):b∈s.boxes∧b.pinned=true:=by
 unfold CS.pinned CS.pick at h
 obtain ⟨h1,h2⟩:=List.mem_filter.1 h
 simp only [Bool.and_eq_true] at h2
 exact ⟨h1,h2.2⟩
theorem pinned_sort (w:WF s) {f:Int}:(s.pinned f).Pairwise (fun a b=>a.id<b.id):=w.b.1.filter _
def unp (s:CS) (f:Int) (j:Nat):CS:=((((s.pinned f).drop (s.keepOf f)).reverse.take j).foldl (fun s b=>s.unpin f b) s)
abbrev unL (s:CS) (f:Int):List Box:=((s.pinned f).drop (s.keepOf f)).reverse
theorem unp_succ {f:Int} {j:Nat} (h:j<(unL s f).length):unp s f (j+1)=(unp s f j).unpin f ((unL s f)[j]):=by
 unfold unp
 rw [foldl_take _ _ _ _ h]
theorem unL_at {f:Int} {j:Nat} (h:j<(unL s f).length) (h':(s.pinned f).length-1-j<(s.pinned f).length):(unL s f)[j]=(s.pinned f)[(s.pinned f).length-1-j]:=by
 have hl:(unL s f).length=(s.pinned f).length-s.keepOf f:=by simp
 rw [List.getElem_reverse,List.getElem_drop]
 congr 1
 rw [List.length_drop]
 omega
theorem unp_ok (k:Ok s) (f:Int) : ∀ j,j≤(unL s f).length→Ok (unp s f j)∧Ke s (unp s f j) ∧ ∀ i (hi:i<(unL s f).length),j≤i→(unL s f)[i]∈(unp s f j).boxes:=by
 intro j
 induction j with
 | zero =>
  intro _
  refine ⟨k,.refl s,fun i hi _=>?_⟩
  have:(unL s f)[i]∈s.pinned f:=List.mem_of_mem_drop (List.mem_reverse.1 (List.getElem_mem hi))
  exact (pinned_sub this).1
 | succ j ih =>
  intro hj
  obtain ⟨h1,h2,h3⟩:=ih (by omega)
  have hm:=h3 j (by omega) (Nat.le_refl _)
  have hp:(unL s f)[j]∈s.pinned f:=List.mem_of_mem_drop (List.mem_reverse.1 (List.getElem_mem (show j<(unL s f).length by omega)))
  rw [unp_succ (by omega)]
  refine ⟨h1.unpin hm (pinned_sub hp).2 f,h2.trans (.unpin _ _ _),fun i hi hij=>unpin_keep (h3 i hi (by omega)) ?_⟩
  have hs:=pinned_sort k.w (f:=f)
  have hl:(unL s f).length=(s.pinned f).length-s.keepOf f:=by simp
  rw [unL_at hi (by omega),unL_at (show j<(unL s f).length by omega) (by omega)]
  have:=List.pairwise_iff_getElem.1 hs ((s.pinned f).length-1-i) ((s.pinned f).length-1-j) (by omega) (by omega) (by omega)
  omega
theorem keep_eq {f:Int}:s.keep f=CS.pins f (s.keepOf f-((unp s f (unL s f).length).pinned f).length) (unp s f (unL s f).length):=by
 unfold CS.keep unp
 rw [List.take_length]
theorem _root_.Gh.Ok.pin1 (k:Ok s) {f:Int} {x:Fnc} (hx:s.fns f=some x) {s1:CS} (h:s.pin1 f=some s1):Ok s1:=by
 have em:s.memOf f=x.mem:=by unfold CS.memOf; rw [hx]
 unfold CS.pin1 at h
 cases hs:s.spare f with
 | some b =>
  simp only [hs,Option.some.injEq] at h
  subst h
  have hb:b∈s.boxes:=by
   rw [spare_eq] at hs
   have key : ∀ st b,(spS s f st).head? = some b→b∈s.boxes:=fun st b h=>(List.mem_filter.1 (List.mem_of_mem_head? h)).1
   cases h1:(spS s f 1).head? with
   | some y=>rw [h1] at hs; simp only [Option.some_or,Option.some.injEq] at hs; subst hs; exact key _ _ h1
   | none =>
    rw [h1] at hs
    cases h2:(spS s f 0).head? with
    | some y=>rw [h2] at hs; simp only [Option.none_or,Option.some_or,Option.some.injEq] at hs; subst hs; exact key _ _ h2
    | none=>rw [h2] at hs; simp only [Option.none_or] at hs; exact key _ _ hs
  exact k.pin hb
 | none =>
  obtain ⟨h1,h2⟩:=k.room (s.memOf f)
  cases hr:(s.room (s.memOf f)).2 with
  | none=>simp only [hs,hr] at h; cases h
  | some kk =>
   simp only [hs,hr,Option.some.injEq] at h
   subst h
   obtain ⟨h3,h4,h5⟩:=h2 kk hr
   obtain ⟨y,hy,he⟩:=(Ke.room s (s.memOf f)).fn hx
   have e1:y.fix.mem=x.fix.mem:=by rw [he]
   have e1:y.mem=x.mem:=e1
   obtain ⟨k2,hm⟩:=h1.start hy h3 h4 (by rw [e1,← em]; exact h5)
   exact k2.pin hm
theorem spare_mem {f:Int} {b:Box} (hs:s.spare f=some b):b∈s.boxes:=by
 rw [spare_eq] at hs
 have key : ∀ st b,(spS s f st).head? = some b→b∈s.boxes:=fun st b h=>(List.mem_filter.1 (List.mem_of_mem_head? h)).1
 cases h1:(spS s f 1).head? with
 | some y=>rw [h1] at hs; simp only [Option.some_or,Option.some.injEq] at hs; subst hs; exact key _ _ h1
 | none =>
  rw [h1] at hs
  cases h2:(spS s f 0).head? with
  | some y=>rw [h2] at hs; simp only [Option.none_or,Option.some_or,Option.some.injEq] at hs; subst hs; exact key _ _ h2
  | none=>rw [h2] at hs; simp only [Option.none_or] at hs; exact key _ _ hs
theorem _root_.Gh.Ok.pins {f:Int} : ∀ n {s:CS} {x:Fnc},Ok s→s.fns f=some x→Ok (CS.pins f n s):=by
 intro n
 induction n with
 | zero=>intro s x k _; exact k
 | succ n ih =>
  intro s x k hx
  simp only [CS.pins]
  cases h:s.pin1 f with
  | none=>exact k
  | some s1 =>
   obtain ⟨y,hy,_⟩:=(Ke.pin1 h).fn hx
   exact ih (k.pin1 hx h) hy
theorem _root_.Gh.Ok.keep (k:Ok s) {f:Int} {x:Fnc} (hx:s.fns f=some x):Ok (s.keep f):=by
 rw [keep_eq]
 obtain ⟨h1,h2,_⟩:=unp_ok k f (unL s f).length (Nat.le_refl _)
 obtain ⟨y,hy,_⟩:=h2.fn hx
 exact Ok.pins _ h1 hy
end
theorem CoreAt.box {c:Nat} {s:CS} {o:AV} {H H':AH} {b:Box} (h:CoreAt F c o s H) (hn:b.id<s.next) (hf:Fra (At (nBox c b.id)) H H') (hr:H'.f (nBox c b.id)=some (.row 8 (cs (boxC b)))):CoreAt F c o (s.setBox b) H' :=
 h.boxes' (x:=repl s.boxes b) hf (fun n h=>by rw [h]; exact .inr rfl) (BoxesAt.set h.boxes hn hf hr)
theorem Few.of {s:CS} (h:s.next≤1000000000):Few s:=by unfold Few; omega
theorem _root_.Gh.Ok.out {s:CS} (k:Ok s) (h:s.next≤1000000000):s.out.length<2147483648:=by
 have h1:=k.o
 have h2:=k.w.w.2.2
 unfold OB deads at *
 omega
end Go.Ab

namespace Go.Ab
open Go Gh
variable {P : Program} {F : Nums}
theorem pins_some {f:Int} {n:Nat} {s s1:CS} (h:s.pin1 f=some s1):CS.pins f (n+1) s=CS.pins f n s1:=by
 conv=>lhs; unfold CS.pins
 rw [h]
theorem pins_none {f:Int} {n:Nat} {s:CS} (h:s.pin1 f=none):CS.pins f n s=s:=by
 cases n with
 | zero=>rfl
 | succ n=>unfold CS.pins; rw [h]
theorem room_none {s:CS} {mem:Int} (h:(s.room mem).2=none):(s.room mem).1=s:=by
 unfold CS.room at *
 cases hf:s.fit mem with
 | some k=>rfl
 | none =>
  rw [hf] at h
  simp only at h ⊢
  split
  ·rfl
  ·rename_i hk
   rw [hk] at h; cases h
theorem out_eq {c:Nat} {s:CS} {o o':AV} {H:AH} (h:CoreAt F c o s H) (h':CoreAt F c o' s H):o=o':=by
 have e1:=h.core
 rw [h'.core] at e1
 have e2:cs (coreC c s o')=cs (coreC c s o):=by injection e1 with e1; injection e1
 have:=congrFun e2 10
 simpa [cs] using this.symm
theorem W_blk {id:Nat} {a:AC} {Q:Qs} {l:List (Nat × AV)} {H:AH} {u:T (AC.blk id a,Q,l,H)} (h:W P a ⟨Q.nrm,fun i t' H'=>if i=id then Q.nrm t' H' else Q.ext i t' H',Q.ret⟩ l H ⟨⟩):W P (.blk id a) Q l H u:=h
structure KBx (c:Nat) (k0 f kp:Int) (H':AH):Prop where
 a:H'.f ⟨0,k0,0⟩=some (.row 1 (cs [.ptr (nC c) 0]))
 b:H'.f ⟨0,k0,1⟩=some (.row 1 (cs [i64 f]))
 w:H'.f ⟨0,k0+1,0⟩=some (.row 1 (cs [i64 kp]))
structure KAt (F:Nums) (c:Nat) (o:AV) (H:AH) (f kp:Int) (o':AV) (s':CS) (H':AH):Prop where
 st:CStep F c o H o' s' H'
 bx:KBx c H.k f kp H'
 k:H.k+2≤H'.k
 o : ∀ n,isOut o' n→isOut o n∨(n.t=0∧H.k+2≤n.i)
section
variable {c : Nat} {o o' : AV} {H A B : AH} {f kp : Int} {s s' s2 : CS}
theorem KAt.mk' {l:List Nm} (h:KAt F c o H f kp o' s' A):KAt F c o H f kp o' s' ⟨A.f,A.k,l⟩:=⟨h.st.mk',⟨h.bx.a,h.bx.b,h.bx.w⟩,h.k,h.o⟩
theorem KAt.same (h:KAt F c o H f kp o' s' A) (hs:Same A B):KAt F c o H f kp o' s' B:=by
 have hk:=h.k
 refine ⟨h.st.trans (CStep.in_ (h.st.at_.same hs) hs.fra),⟨?_,?_,?_⟩,Int.le_trans hk hs.k,h.o⟩
 ·exact hs.some (fun _=>by show H.k<A.k; omega) h.bx.a
 ·exact hs.some (fun _=>by show H.k<A.k; omega) h.bx.b
 ·exact hs.some (fun _=>by show H.k+1<A.k; omega) h.bx.w
theorem KAt.step {o2:AV} (hc:CoreAt F c o s H) (h:KAt F c o H f kp o' s' A) (hs:CStep F c o' A o2 s2 B):KAt F c o H f kp o2 s2 B:=by
 have hk:=h.k
 have key : ∀ i q ob,H.k≤i→i<H.k+2→A.f ⟨0,i,q⟩=some ob→B.f ⟨0,i,q⟩=some ob:=fun i q ob h1 h2 h3=>by
  rw [hs.fra.at_ _ (fun _=>by show i<A.k; omega) (fun hS=>?_)]
  ·exact h3
  ·rcases hS with hS | hS
   ·have:(0:Nat) / 64=c+1:=hS
    omega
   ·rcases h.o _ hS with hS | ⟨_,hS⟩
    ·rcases hc.out with ⟨_,e⟩ | ⟨_,m,_,_,m1,e,_⟩
     ·obtain ⟨_,e'⟩:=hS; rw [e] at e'; cases e'
     ·obtain ⟨_,e'⟩:=hS; rw [e] at e'; cases e'
      have:i<H.k:=m1
      omega
    ·have:H.k+2≤i:=hS
     omega
 refine ⟨h.st.trans hs,⟨key _ _ _ (Int.le_refl _) (by omega) h.bx.a,key _ _ _ (Int.le_refl _) (by omega) h.bx.b,key _ _ _ (by omega) (by omega) h.bx.w⟩,Int.le_trans hk hs.fra.k,fun n hn=>?_⟩
 rcases hs.out n hn with h6 | ⟨h6,h7⟩
 ·exact h.o n h6
 ·exact .inr ⟨h6,by omega⟩
theorem keep_pin (G:Good P F) {p:Int} {b:Box} {r:List (Nat × AV)} {Q:Qs} (hc:CoreAt F c o s H) (k:Ok s') (hn:s'.next≤1000000000) (hb:b∈s'.boxes) (h:KAt F c o H f kp o' s' A)
  (hQ : ∀ o2 H7,KAt F c o H f kp o2 (s'.pin b) H7→Q.nrm (fr [(2,.ptr ⟨0,H.k,0⟩ 0),(3,.ptr ⟨0,H.k,1⟩ 0),(4,.ptr ⟨0,H.k+1,0⟩ 0),(8,i64 p)]) H7) :
  RT P (.seq (.reg [2,3,4,8,9] 0 (r57_18 F)) (.reg [2,3,4,8] 0 (r57_19 F))) Q (fr ((2,.ptr ⟨0,H.k,0⟩ 0)::(3,.ptr ⟨0,H.k,1⟩ 0)::(4,.ptr ⟨0,H.k+1,0⟩ 0)::(8,i64 p)::(9,.ptr (nBox c b.id) 0)::r)) A:=by
 refine RT_i ?_
 simp only [go_sem,h.bx.a]
 refine CA_s [] (core_take_w G (H:=A) (b:=b) k.w (Few.of hn) h.st.at_ hb) ?_
 rintro _ H7 ⟨hc7,hf7⟩ _ _
 have h7:KAt F c o H f kp o' (s'.take b) H7:=h.step hc (CStep.in_ hc7 (hf7.mono ct_in))
 have hb7:=hc7.boxes.row b hb
 simp only [go_sem,hb7]
 exact hQ o' _ (h7.step hc (CStep.in_ (h7.st.at_.box (b:={ b with pinned:=true }) (k.w.b.2 b hb).id.2 Fra.mk1.s1 (by simp only [go_sem])) (Fra.mono (Fra.mk1.s1 (n:=nBox c (Box.id b))) fun n h=>in_at (by decide) rfl h)))
theorem keep_tail (E:EnvK P F) {x:Fnc} (k:Ok s) (hx:s.fns f=some x) (hn:(s.keep f).next≤1000000000) (hc:CoreAt F c o s H) {o1:AV} {H2:AH} {r:List (Nat × AV)} (h2:KAt F c o H f x.keep o1 (unp s f (unL s f).length) H2) :
  RT P (c_core_keep F).ac.tl.tl.tl ⟨endQ [] (fun _ H' => ∃ o',CStep F c o H o' (s.keep f) H'),fun _ _ _=>False,endQ [] (fun _ H' => ∃ o',CStep F c o H o' (s.keep f) H')⟩
    (fr ((2,.ptr ⟨0,H.k,0⟩ 0)::(3,.ptr ⟨0,H.k,1⟩ 0)::(4,.ptr ⟨0,H.k+1,0⟩ 0)::r)) H2:=by
 have hko:s.keepOf f=x.keep.toNat:=by unfold CS.keepOf; rw [hx]
 have hkp:=(k.w.f f x hx).2.1.keep
 simp only [c_core_keep,AC.tl_seq]
 refine RT_i ?_
 obtain ⟨ku,hu,_⟩:=unp_ok k f (unL s f).length (Nat.le_refl _)
 generalize hsu:unp s f (unL s f).length=su at h2 ku hu
 have hke:s.keep f=CS.pins f (s.keepOf f-(su.pinned f).length) su:=by rw [keep_eq,hsu]
 have hun:su.next≤1000000000:=by
  have:=(Ke.pins f (s.keepOf f-(su.pinned f).length) su).next
  rw [← hke] at this; omega
 simp only [go_sem,h2.bx.a,h2.bx.b]
 refine CA_s [] (core_pinned_c E.e ku.w (Few.of hun) h2.st.at_) ?_
 rintro v H3 ⟨hv,hs3,_⟩ _ _
 have h3:=h2.same hs3
 have hvl:lenV v=some (i64 ((su.pinned f).length:Int)):=by
  rcases hv with ⟨e,rfl⟩ | ⟨m,cc,g,_,_,rfl,_⟩
  ·have:su.pinned f=[]:=by simpa using e
   rw [this]; rfl
  ·simp only [lenV,List.length_map]
 unfold lenV at hvl
 simp only [go_sem,hvl]
 refine C_loop (fun n l' H' => ∃ (s':CS) (o':AV) (y:Fnc) (p:Nat) (r:List (Nat × AV)),Ok s'∧s'.fns f=some y∧y.mem=x.mem∧n=s.keepOf f-p∧p<2147483648+s.keepOf f-n∧s.keep f=CS.pins f n s'∧KAt F c o H f x.keep o' s' H'∧l'=(2,.ptr ⟨0,H.k,0⟩ 0)::(3,.ptr ⟨0,H.k,1⟩ 0)::(4,.ptr ⟨0,H.k+1,0⟩ 0)::(8,i64 (p:Int))::r) (s.keepOf f-(su.pinned f).length) ?_ ?_
 ·obtain ⟨y,hy,he⟩:=hu.fn hx
  have e1:y.fix.mem=x.fix.mem:=by rw [he]
  refine ⟨su,o1,y,(su.pinned f).length,[],ku,hy,e1,rfl,?_,hke,h3.mk',rfl⟩
  have h1:(su.pinned f).length≤su.boxes.length:=List.length_filter_le ..
  have:=(ids_ok ku.w (Few.of hun)).l
  omega
 rintro n _ H4 ⟨s',o',y,p,r,k',hy,hym,hnp,hp,hkp',h4,rfl⟩ _ _
 refine ⟨[],?_⟩
 have hsn':s'.next≤1000000000:=by
  have:=(Ke.pins f n s').next
  rw [← hkp'] at this; omega
 refine W_cut ?_
 simp only [go_sem,h4.bx.w]
 refine EI_i (fun d=>?_) (fun d=>?_)
 rotate_left
 ·have e0:n=0:=by simp at d; omega
  subst e0
  have:s.keep f=s':=hkp'
  simp only [go_sem]
  rw [this]
  exact ⟨o',h4.st.mk'⟩
 have hn0:0<n:=by simp at d; omega
 obtain ⟨n,rfl⟩ : ∃ m,n=m+1:=⟨n-1,by omega⟩
 have wp:=wrapS (i:=p) (by omega)
 simp only [go_sem]
 refine RT_i ?_
 refine W_cut ?_
 refine W_blk ?_
 refine W_cut ?_
 simp only [go_sem,h4.bx.a,h4.bx.b]
 refine CA_s [] (core_spare_c E.e k'.w (Few.of hsn') h4.st.at_.mk') ?_
 rintro _ H5 ⟨rfl,hs5⟩ _ _
 have h5:=h4.same hs5.of_mk
 simp only [go_sem]
 refine RT_i ?_
 refine W_cut ?_
 have fin : ∀ (s1:CS) (o2:AV) (y':Fnc) (H7:AH) (Q:Qs),(∀ t H',(∃ n' l'',t=fr l''∧n'<n+1 ∧ ∃ (s':CS) (o':AV) (y:Fnc) (p:Nat) (r:List (Nat × AV)),Ok s'∧s'.fns f=some y∧y.mem=x.mem∧n'=s.keepOf f-p∧p<2147483648+s.keepOf f-n'∧s.keep f=CS.pins f n' s'∧KAt F c o H f x.keep o' s' H'∧l''=(2,.ptr ⟨0,H.k,0⟩ 0)::(3,.ptr ⟨0,H.k,1⟩ 0)::(4,.ptr ⟨0,H.k+1,0⟩ 0)::(8,i64 (p:Int))::r)→Q.nrm t H') →
   Ok s1→s1.fns f=some y'→y'.mem=x.mem→s.keep f=CS.pins f n s1→KAt F c o H f x.keep o2 s1 H7 →
   RT P (.reg [2,3,4,8] 0 (r57_12 F)) Q (fr [(2,.ptr ⟨0,H.k,0⟩ 0),(3,.ptr ⟨0,H.k,1⟩ 0),(4,.ptr ⟨0,H.k+1,0⟩ 0),(8,i64 (p:Int))]) H7:=by
  intro s1 o2 y' H7 Q hQ k1 hy1 hm1 hk1 h7
  refine RT_i ?_
  simp only [go_sem,wp]
  exact hQ _ _ ⟨n,_,rfl,by omega,s1,o2,y',p+1,[],k1,hy1,hm1,by omega,by omega,hk1,h7,rfl⟩
 cases hsp:s'.spare f with
 | some b =>
  have hb:=spare_mem hsp
  have hp1:s'.pin1 f=some (s'.pin b):=by unfold CS.pin1; rw [hsp]
  simp only [go_sem,boxP]
  exact keep_pin E.e.g hc k' hsn' hb h5.mk' fun o2 H7 h7=>fin _ o2 y H7 _ (fun t H' h=>h) (k'.pin hb) hy hym (by rw [hkp',pins_some hp1]) h7
 | none =>
  have hm6:=h5.st.at_.fns.map
  have hr6:=h5.st.at_.fns.row f y hy
  have pm6:=fns_ptr (c:=c) hy
  simp only [go_sem,boxP,h5.bx.a,h5.bx.b,h5.st.at_.core,hm6,pm6,hr6.1]
  refine CA_s [] (core_room_c E.e (H:=⟨H5.f,H5.k,[]⟩) k' hsn' h5.st.at_.mk' (mem:=y.mem)) ?_
  rintro _ H6 ⟨⟨w,rfl,hwr⟩,o7,h7⟩ _ _
  have h8:KAt F c o H f x.keep o7 (s'.room y.mem).1 H6:=h5.step hc h7.of_mk
  obtain ⟨kr,hkr⟩:=k'.room y.mem
  have hmo:s'.memOf f=y.mem:=by unfold CS.memOf; rw [hy]
  simp only [go_sem]
  cases hrr:(s'.room y.mem).2 with
  | none =>
   simp only [go_sem,Option.isSome_none]
   have hp1:s'.pin1 f=none:=by unfold CS.pin1; rw [hsp,hmo]; simp only [hrr]
   have e1:s.keep f=(s'.room y.mem).1:=by rw [hkp',pins_none hp1,room_none hrr]
   rw [e1]
   exact ⟨o7,h8.st.mk'⟩
  | some h =>
   have:=hwr h hrr
   subst this
   obtain ⟨hh,hup,hfr⟩:=hkr w hrr
   obtain ⟨y2,hy2,he2⟩:=(Ke.room s' y.mem).fn hy
   have e1:y2.fix.mem=y.fix.mem:=by rw [he2]
   have e1:y2.mem=y.mem:=e1
   obtain ⟨k5,hb⟩:=kr.start (f:=f) hy2 hh hup (by rw [e1]; exact hfr)
   have hp1:s'.pin1 f=some (((s'.room y.mem).1.start f w).1.pin ((s'.room y.mem).1.start f w).2):=by unfold CS.pin1; rw [hsp,hmo]; simp only [hrr]
   have hkp6:s.keep f=CS.pins f n (((s'.room y.mem).1.start f w).1.pin ((s'.room y.mem).1.start f w).2):=by rw [hkp',pins_some hp1]
   have hn5:((s'.room y.mem).1.start f w).1.next≤1000000000:=by
    have h1:=(Ke.pins f n (((s'.room y.mem).1.start f w).1.pin ((s'.room y.mem).1.start f w).2)).next
    rw [← hkp6] at h1
    have h2:=(Ke.pin ((s'.room y.mem).1.start f w).1 ((s'.room y.mem).1.start f w).2).next
    omega
   have hnr:(s'.room y.mem).1.next≤1000000000:=Int.le_trans (Ke.start _ f w).next hn5
   simp only [go_sem,Option.isSome_some,h8.bx.a,h8.bx.b]
   refine CA_s [] (core_start_c E.e.g (H:=⟨H6.f,H6.k,[]⟩) (f:=f) (h:=w) kr.w (Few.of hnr) (kr.out hnr) h8.st.at_.mk' hy2) ?_
   rintro _ H7 ⟨rfl,o9,h9⟩ _ _
   have h6:KAt F c o H f x.keep o9 ((s'.room y.mem).1.start f w).1 H7:=h8.step hc h9.of_mk
   obtain ⟨y',hy',hym'⟩ : ∃ y',(((s'.room y.mem).1.start f w).1.pin ((s'.room y.mem).1.start f w).2).fns f=some y'∧y'.mem=x.mem:=by
    obtain ⟨y3,hy3,he3⟩:=((Ke.start (s'.room y.mem).1 f w).trans (Ke.pin _ _)).fn hy2
    have e2:y3.fix.mem=y2.fix.mem:=by rw [he3]
    have e2:y3.mem=y2.mem:=e2
    exact ⟨y3,hy3,by rw [e2,e1,hym]⟩
   simp only [go_sem]
   exact keep_pin E.e.g (b:=((s'.room y.mem).1.start f w).2) hc k5 hn5 hb h6.mk' fun o2 H8 h8=>fin _ o2 y' H8 _ (fun t H' h=>h) (k5.pin hb) hy' hym' hkp6 h8
end
end Go.Ab

namespace Go.Ab
open Go Gh
variable {P : Program} {F : Nums}
section
variable {c : Nat} {o o' : AV} {H A B : AH} {f kp : Int} {s s' s2 : CS}
theorem inSl_new {v:AV} {n:Nm} {l:List Int} {H':AH} (hv:IdsAt v l H') (h:inSl v n):n.t=0:=by
 rcases hv with ⟨_,rfl⟩ | ⟨m,_,_,m0,_,rfl,_⟩
 ·obtain ⟨_,_,_,e⟩:=h; cases e
 ·obtain ⟨_,_,_,e⟩:=h; cases e; exact m0
theorem core_keep_c (E:EnvK P F) {x:Fnc} (k:Ok s) (hx:s.fns f=some x) (hn:(s.keep f).next≤1000000000) (hc:CoreAt F c o s H) :
  ACalls P F.core_keep [.ptr (nC c) 0,i64 f] H (fun _ H' => ∃ o',CStep F c o H o' (s.keep f) H'):=by
 refine fn_rule E.e.g.mixed E.e.g.core_keep rfl [] (fun hcl=>?_)
 have hw:=k.w
 have hsn:s.next≤1000000000:=Int.le_trans (Ke.keep s f).next hn
 have hfew:=Few.of hsn
 have hwf:=(hw.f f x hx).2.1
 have hko:s.keepOf f=x.keep.toNat:=by unfold CS.keepOf; rw [hx]
 have hkp:=hwf.keep
 have n1:(⟨0,H.k,0⟩:Nm)≠⟨0,H.k,1⟩:=tmp_ne (by decide)
 have n2 : ∀ q,(⟨0,H.k,q⟩:Nm)≠⟨0,H.k+1,0⟩:=fun q=>tmp_nei (by omega)
 have n3 : ∀ i q,nC c≠⟨0,i,q⟩:=fun i q e=>tg_ne0 (congrArg Nm.t e)
 have n4 : ∀ i q,nFns c≠⟨0,i,q⟩:=fun i q e=>tg_ne0 (congrArg Nm.t e)
 have n5 : ∀ i q,nFn c f≠⟨0,i,q⟩:=fun i q e=>tg_ne0 (congrArg Nm.t e)
 have hcr:=hc.core
 have hm:=hc.fns.map
 have hr:=hc.fns.row f x hx
 have pm:=fns_ptr (c:=c) hx
 refine W_cut0 ?_
 simp only [go_sem,n1]
 refine RT_i ?_
 refine W_cut ?_
 simp only [go_sem,n1,n2,n3,n4,n5,hcr,hm,pm,hr.1]
 generalize hH1:(bmp 1 ((bmp 2 (((⟨H.f,H.k,[]⟩:AH).set ⟨0,H.k,0⟩ (.row 1 (cs [.ptr (nC c) 0]))).set ⟨0,H.k,1⟩ (.row 1 (cs [i64 f])))).set ⟨0,H.k+1,0⟩ (.row 1 (cs [i64 x.keep]))))=H1
 have hs1:Same H H1:=by
  rw [← hH1]
  have a:=((((Same.mk' (s:=([]:List Nm)) (Same.refl H)).set (nold (Int.le_refl _)) (n:=⟨0,H.k,0⟩) (o:=.row 1 (cs [.ptr (nC c) 0]))).set (nold (Int.le_refl _)) (n:=⟨0,H.k,1⟩) (o:=.row 1 (cs [i64 f]))).bmp (c:=2))
  exact (a.set (nold (q:=0) (i:=H.k+1) (by omega)) (o:=.row 1 (cs [i64 x.keep]))).bmp
 have k1:H1.k=H.k+2:=by rw [← hH1]; simp only [go_sem]; omega
 have b0:H1.f ⟨0,H.k,0⟩=some (.row 1 (cs [.ptr (nC c) 0])):=by rw [← hH1]; simp only [go_sem,n1,n2]
 have b1:H1.f ⟨0,H.k,1⟩=some (.row 1 (cs [i64 f])):=by rw [← hH1]; simp only [go_sem,n2]
 have b2:H1.f ⟨0,H.k+1,0⟩=some (.row 1 (cs [i64 x.keep])):=by rw [← hH1]; simp only [go_sem]
 have h1:KAt F c o H f x.keep o s H1:=⟨CStep.in_ (hc.same hs1) hs1.fra,⟨b0,b1,b2⟩,by omega,fun n h=>.inl h⟩
 refine RT_i ?_
 refine W_cut ?_
 simp only [go_sem,b0,b1]
 refine CA_s [] (core_pinned_c E.e hw hfew h1.st.at_) ?_
 rintro v H2 ⟨hv,hs2,hvq⟩ hk2 _
 have hs2:Same H1 H2:=hs2
 have h2:=h1.same hs2
 have hvq : ∀ q,inSl v q→H1.k≤q.i:=hvq
 simp only [go_sem]
 refine CA_s [] (slices_Backward_c E.e.g (H:=⟨H2.f,H2.k,[]⟩) hv) ?_
 rintro _ H3 ⟨rfl,hb3,hk3,hs3⟩ _ _
 have hs3:Same H2 H3:=hs3.of_mk
 have hk3:H2.k+1≤H3.k:=hk3
 have hb3:H3.f ⟨0,H2.k,0⟩=some (.row 1 (cs [v])):=hb3
 have h3:=h2.same hs3
 have hv3:IdsAt v ((s.pinned f).map Box.id) H3:=by
  rcases hv with h | ⟨m,cc,g,m1,m2,m3,m4,m5,m6⟩
  ·exact .inl h
  ·have:=hs3.k
   exact .inr ⟨m,cc,g,m1,by omega,m3,m4,hs3.some (fun _=>m2) m5,m6⟩
 have hvlt : ∀ q,inSl v q→q.i<H2.k:=fun q h=>by
  rcases hv with ⟨_,rfl⟩ | ⟨m,_,_,m0,m1,rfl,_⟩
  ·obtain ⟨_,_,_,e⟩:=h; cases e
  ·obtain ⟨_,_,_,e⟩:=h; cases e; exact m1
 have hlp:((s.pinned f).map Box.id).length<2147483648:=by
  have h1:(s.pinned f).length≤s.boxes.length:=List.length_filter_le ..
  have:=(ids_ok hw hfew).l
  rw [List.length_map]; omega
 have hul:(unL s f).length=(s.pinned f).length-s.keepOf f:=by simp
 simp only [go_sem]
 have stays : ∀ {o':AV} {s':CS} {H':AH},KAt F c o H f x.keep o' s' H'→CStep F c o H3 o' s' H' → ∀ n,(n=⟨0,H2.k,0⟩∨inSl v n)→H'.f n=H3.f n:=by
  intro o' s' H' h hst n hn
  have hni:n.t=0∧H.k+2≤n.i∧n.i<H3.k:=by
   rcases hn with rfl | hn
   ·refine ⟨rfl,?_,?_⟩
    ·show H.k+2≤H2.k; have:=hs2.k; omega
    ·show H2.k<H3.k; omega
   ·exact ⟨inSl_new hv hn,by have:=hvq n hn; omega,by have:=hvlt n hn; omega⟩
  refine hst.fra.at_ n (fun _=>hni.2.2) (fun hS=>?_)
  rcases hS with hS | hS
  ·have:n.t / 64=c+1:=hS
   rw [hni.1] at this; omega
  ·rcases hc.out with ⟨_,e⟩ | ⟨_,m,_,_,m1,e,_⟩
   ·obtain ⟨_,e'⟩:=hS; rw [e] at e'; cases e'
   ·obtain ⟨_,e'⟩:=hS; rw [e] at e'; cases e'
    omega
 refine C_rf (g:=F.slices_Backward_1) (caps:=[.ptr ⟨0,H2.k,0⟩ 0]) rfl (revL ((s.pinned f).map Box.id)) (fun n=>n=⟨0,H2.k,0⟩∨inSl v n) (E.bw _ _ v _ hb3 hv3 hlp) (callable_of E.e.g.slices_Backward_1)
  (fun j H'=>j≤(unL s f).length ∧ ∃ o',KAt F c o H f x.keep o' (unp s f j) H'∧CStep F c o H3 o' (unp s f j) H') ⟨Nat.zero_le _,o,h3.mk',(CStep.in_ h3.st.at_ (Fra.refl _ _)).mk'⟩ ?_ ?_ ?_
 ·rintro j H' ⟨hj,o',h,hst⟩ _ _ n hn
  exact stays h hst n hn
 ·
  rintro j px py H' hj ⟨hjl,o',h,hst⟩ _ _
  obtain ⟨ku,hu,hum⟩:=unp_ok k f j hjl
  have hun:(unp s f j).next≤1000000000:=by
   have hz:(unp s f (unL s f).length).next≤(s.keep f).next:=by rw [keep_eq]; exact (Ke.pins f _ _).next
   have : ∀ d,j+d≤(unL s f).length→(unp s f j).next≤(unp s f (j+d)).next:=by
    intro d
    induction d with
    | zero=>intro _; exact Int.le_refl _
    | succ d ih =>
     intro hd
     refine Int.le_trans (ih (by omega)) ?_
     rw [← Nat.add_assoc,unp_succ (by omega)]
     exact (Ke.unpin _ _ _).next
   have:=this ((unL s f).length-j) (by omega)
   rw [show j+((unL s f).length-j)=(unL s f).length by omega] at this
   omega
  obtain ⟨hjp,rfl,rfl⟩:=revL_at hj
  rw [List.length_map] at hjp ⊢
  refine ⟨[],?_⟩
  simp only [go_sem]
  refine RN_i [] (fun hcl'=>?_)
  simp only [go_sem,h.bx.w]
  refine EI_i (fun d=>?_) (fun d=>?_)
  ·
   have:j=(unL s f).length:=by simp at d; omega
   subst this
   simp only [go_sem]
   exact keep_tail E k hx hn hc h.mk'
  have hjl':j<(unL s f).length:=by simp at d; omega
  have hid:((s.pinned f).map Box.id).getD ((s.pinned f).length-1-j) 0=((unL s f)[j]).id:=by
   rw [unL_at hjl' (by omega),List.getD_eq_getElem?_getD,List.getElem?_map,List.getElem?_eq_getElem (by omega)]; rfl
  rw [hid]
  have hb:=hum j hjl' (Nat.le_refl _)
  have hsucc:=unp_succ hjl'
  generalize (unL s f)[j]=b at hb hsucc
  generalize unp s f j=s0 at h hst ku hu hb hsucc hun
  have pmb:ptrMap (nBox c) (findB s0.boxes) [b.id]=some (.ptr (nBox c b.id) 0):=by
   show (findB s0.boxes b.id).map _=_
   rw [findB_mem (ids_ok ku.w (Few.of hun)) hb]; rfl
  have hrb:=h.st.at_.boxes.row b hb
  simp only [go_sem,h.bx.a,h.st.at_.core,h.st.at_.boxes.map,pmb,hrb]
  have hbb:=ku.w.b.2 b hb
  have w1:WF (s0.setBox { b with pinned:=false }):=ku.w.setBox hb rfl rfl rfl rfl hbb.st hbb.since
  have hb1:({ b with pinned:=false }:Box)∈(s0.setBox { b with pinned:=false }).boxes:=setBox_self ku.w hb rfl
  have hst1:CStep F c o' H' o' (s0.setBox { b with pinned:=false }) ((⟨H'.f,H'.k,[]⟩:AH).set (nBox c b.id) (.row 8 (cs (boxC { b with pinned:=false })))) :=
   CStep.in_ (h.st.at_.box (b:={ b with pinned:=false }) hbb.id.2 Fra.mk1.s1 (by simp only [go_sem])) (Fra.mono (Fra.mk1.s1 (n:=nBox c (Box.id b))) fun n h=>in_at (by decide) rfl h)
  have h4:=h.step hc hst1
  have hst4:=hst.trans hst1
  have hun1:(s0.setBox { b with pinned:=false }).next≤1000000000:=hun
  refine CA_s [] (box_Idle_c E.e.g (b:={ b with pinned:=false }) (H:=((⟨H'.f,H'.k,[]⟩:AH).set (nBox c b.id) (.row 8 (cs (boxC { b with pinned:=false }))))) (by simp only [go_sem])) ?_
  rintro _ H5 ⟨rfl,hs5⟩ _ _
  have h5:=h4.same hs5
  have hst5:=hst4.trans (CStep.in_ h5.st.at_ hs5.fra)
  simp only [go_sem]
  refine EI_i (fun di=>?_) (fun di=>?_)
  ·have di':b.idle=true:=di
   obtain ⟨y,hy,hye⟩:=hu.fn hx
   simp only [go_sem,h5.bx.a,h5.bx.b,h5.st.at_.core]
   refine CA_s [] (core_window_c E.e.g (H:=⟨H5.f,H5.k,[]⟩) w1 h5.st.at_.mk' (f:=f) (x:=y) hy) ?_
   rintro _ H6 ⟨rfl,hs6⟩ _ _
   have hs6:Same H5 H6:=hs6.of_mk
   have h6:=h5.same hs6
   have hst6:=hst5.trans (CStep.in_ h6.st.at_ hs6.fra)
   have hwin:=ku.w.win f
   have hnow:=ku.w.now
   have wz:IntKind.i64.wrap (s0.now+(s0.win f).stop)=s0.now+(s0.win f).stop:=by
    have h2:=hwin.2.2
    unfold maxTime at hnow
    exact wrap64 (by omega) (by omega)
   have hw':(s0.setBox { b with pinned:=false }).win f=s0.win f:=rfl
   have hn':(s0.setBox { b with pinned:=false }).now=s0.now:=rfl
   simp only [go_sem,h6.bx.a,h6.st.at_.core,hw',hn',wz,holdsOk_cons,gd_none,pureV,forall_const,fr_lkp,and_self]
   refine CA_s [] (core_idle_c E.e.g (H:=⟨H6.f,H6.k,[]⟩) w1 (Few.of hun1) (Gh.Ok.out (s:=s0) ku hun) h6.st.at_.mk' hb1 (stop:=s0.now+(s0.win f).stop)) ?_
   rintro _ H7 ⟨o7,h7⟩ _ _
   have h7:=h7.of_mk
   simp only [go_sem]
   have e:unp s f (j+1)=CS.idle (s0.setBox { b with pinned:=false }) { b with pinned:=false } (s0.now+(s0.win f).stop):=by
    rw [hsucc]; unfold CS.unpin; rw [if_pos di']
   refine ⟨by omega,o7,?_,?_⟩
   ·rw [e]; exact (h6.step hc h7).mk'
   ·rw [e]; exact (hst6.trans h7).mk'
  ·have di' : ¬ b.idle=true:=by
    intro e
    have:({ b with pinned:=false }:Box).idle=true:=e
    rw [this] at di; cases di
   have e:unp s f (j+1)=s0.setBox { b with pinned:=false }:=by
    rw [hsucc]; unfold CS.unpin; rw [if_neg di']
   refine ⟨by omega,o',?_,?_⟩
   ·rw [e]; exact h5.mk'
   ·rw [e]; exact hst5.mk'
 ·rintro H' ⟨hj,o',h,_⟩
  rw [revL_len,List.length_map] at hj h
  have:(s.pinned f).length=(unL s f).length:=by omega
  rw [this] at h
  exact keep_tail E k hx hn hc h
end
end Go.Ab

namespace Gh
open CS
section
variable {s : CS}
theorem Ke.some {s s':CS} (h:Ke s s') (f:Int):(s'.fns f).isSome=(s.fns f).isSome:=by
 have:=h.fns f
 cases hx:s.fns f <;> cases hy:s'.fns f <;> rw [hx,hy] at this <;> first | rfl | (cases this)
theorem keepAll_go (s0:CS) : ∀ (l:List Nat) (s:CS),(∀ f,(s.fns f).isSome=(s0.fns f).isSome) →
  l.foldl (fun s (f:Nat)=>match s.fns f with | some _=>s.keep f | none=>s) s=((l.map fun (i:Nat)=>(i:Int)).filter fun f=>(s0.fns f).isSome).foldl (fun s f=>s.keep f) s
 | [],_,_=>rfl
 | i::l,s,h=>by
  rw [List.foldl_cons,List.map_cons,List.filter_cons]
  have hi:=h (i:Int)
  cases hx:s.fns (i:Int) with
  | none =>
   rw [hx] at hi
   have hi':(s0.fns (i:Int)).isSome=false:=hi.symm
   rw [hi']
   simp only [Bool.false_eq_true,if_false]
   exact keepAll_go s0 l s h
  | some x =>
   rw [hx] at hi
   have hi':(s0.fns (i:Int)).isSome=true:=hi.symm
   rw [hi']
   simp only [if_true,List.foldl_cons]
   exact keepAll_go s0 l _ fun f=>((Ke.keep s (i:Int)).some f).trans (h f)
theorem keepAll_eq:s.keepAll=(Go.Ab.fnIds s).foldl (fun s f=>s.keep f) s:=by
 unfold CS.keepAll Go.Ab.fnIds
 exact keepAll_go s _ s fun _=>rfl
theorem Ok.keeps : ∀ (l:List Int) (s:CS),Ok s→(∀ f∈l,(s.fns f).isSome=true)→Ok (l.foldl (fun s f=>s.keep f) s)
 | [],_,k,_=>k
 | f::l,s,k,h=>by
  rw [List.foldl_cons]
  obtain ⟨x,hx⟩:=Option.isSome_iff_exists.1 (h f (List.mem_cons_self ..))
  exact Ok.keeps l _ (k.keep hx) fun g hg=>by rw [(Ke.keep s f).some g]; exact h g (List.mem_cons_of_mem _ hg)
theorem Ok.keepAll (k:Ok s):Ok s.keepAll:=by
 rw [keepAll_eq]
 refine Ok.keeps _ _ k fun f hf=>?_
 unfold Go.Ab.fnIds at hf
 exact (List.mem_filter.1 hf).2
theorem WF.unend (w:WF s) (id:Int):WF { s with ends:=ups s.ends id none } :=
 { w with
  e:=fun i t ht=>by
   have ht:ups s.ends id none i=some t:=ht
   unfold ups at ht
   split at ht
   ·cases ht
   ·exact w.e i t ht }
theorem Tidy.unend {ex:Int→Prop} (t:Tidy s ex) (id:Int):Tidy { s with ends:=ups s.ends id none } (fun i=>ex i∨i=id) :=
 ⟨fun b hb hn=>t.w b hb fun h=>hn (.inl h),fun b hb hn=>by
  show (∃ t,ups s.ends id none b.id=some t)↔_
  unfold ups
  rw [if_neg (fun h=>hn (.inr h))]
  exact t.e b hb fun h=>hn (.inl h),t.h,t.u,t.q⟩
theorem Ok.unboot (k:Ok s) (f:Int):Ok { s with boots:=ups s.boots f none }:=⟨k.w.unboot f,⟨k.t.w,k.t.e,k.t.h,k.t.u,k.t.q⟩,k.o⟩
theorem Ok.fireKill (k:Ok s) {b:Box} (hb:b∈s.boxes):Ok (CS.kill { s with ends:=ups s.ends b.id none } b) :=
 ⟨(k.w.unend b.id).kill (b:=b) hb,(k.t.unend b.id).kill (k.w.unend b.id) (b:=b) hb (fun i h=>h.elim False.elim id),OB.kill (s:={ s with ends:=ups s.ends b.id none }) (k.w.unend b.id) k.o hb⟩
theorem Ok.ahead (k:Ok s) {a:Int→Option Int} (ha:WfA a):Ok { s with ahead:=a }:=⟨{ k.w with a:=ha },⟨k.t.w,k.t.e,k.t.h,k.t.u,k.t.q⟩,k.o⟩
theorem Ok.bootAhead (k:Ok s) {f:Int} {x:Fnc} (hx:s.fns f=some x):Ok (s.bootAhead f):=by
 unfold CS.bootAhead
 split
 ·exact k
 ·simp only [hx]
  cases hf:s.fit x.mem with
  | none=>exact k
  | some h =>
   obtain ⟨h1,h2,h3,h4⟩:=fit_bd hf
   obtain ⟨k1,hm⟩:=k.start hx h1 h2 h4
   refine k1.ahead ?_
   intro id t ht
   have ht:ups (s.start f h).1.ahead (s.start f h).2.id (some x.til) id=some t:=ht
   unfold ups at ht
   split at ht
   ·simp only [Option.some.injEq] at ht
    rw [← ht]; exact (k.w.f f x hx).2.1.til
   ·exact k1.w.a id t ht
theorem beginB_runs {b:Box} (h:b.st=1∨b.st=0):(beginB s b).runs=true∧(beginB s b).st≠1:=by
 unfold beginB
 rcases h with h | h
 ·rw [if_pos h]; exact ⟨rfl,by simp⟩
 ·rw [if_neg (by omega)]
  by_cases hb:b.bound=true
  ·rw [if_neg (by simp [hb])]
   exact ⟨by unfold Box.runs; simp [h,hb],by omega⟩
  ·rw [if_pos (by simp [h,hb])]
   exact ⟨by unfold Box.runs; simp [h],by simp [h]⟩
theorem beginB_same {b:Box}:(beginB s b).id=b.id∧(beginB s b).fn=b.fn∧(beginB s b).host=b.host∧(beginB s b).mem=b.mem∧(beginB s b).pinned=b.pinned:=by
 unfold beginB
 split
 ·exact ⟨rfl,rfl,rfl,rfl,rfl⟩
 ·split <;> exact ⟨rfl,rfl,rfl,rfl,rfl⟩
theorem sums_congr {s':CS} (h:s'.qf=s.qf) (a:Int) : ∀ n,s'.sums a n=s.sums a n
 | 0=>rfl
 | n+1=>by simp only [CS.sums]; rw [sums_congr h a n,h]
theorem ask_congr {s':CS} (h:s'.qf=s.qf) (h':s'.acc=s.acc) (f:Int):s'.ask f=s.ask f:=by
 unfold CS.ask CS.known
 simp only [sums_congr h,h,h']
theorem qBegin_pos {f:Int} (h:s.ask f=some 0):s.qBegin f={ s with qf:=upn s.qf f.toNat { s.qf f.toNat with busy:=(s.qf f.toNat).busy+1 } }:=by
 unfold CS.qBegin; rw [if_pos h]
theorem begin_eq (f:Int) (b:Box):s.begin f b=CS.setBox (CS.take (CS.qBegin { (s.setFn f (beginF s f)) with boots:=ups (s.setFn f (beginF s f)).boots f none } f) b) (beginB s b):=rfl
theorem begin_form {b:Box} (ha:s.ask b.fn=some 0):s.begin b.fn b={ s with
  fns:=(s.setFn b.fn (beginF s b.fn)).fns,boots:=ups s.boots b.fn none,qf:=upn s.qf b.fn.toNat { s.qf b.fn.toNat with busy:=(s.qf b.fn.toNat).busy+1 },
  worth:=ups2 s.worth b.host b.id none,ends:=ups s.ends b.id none,boxes:=s.boxes.map fun y=>if y.id=(beginB s b).id then beginB s b else y }:=by
 rw [begin_eq]
 generalize hs':({ (s.setFn b.fn (beginF s b.fn)) with boots:=ups (s.setFn b.fn (beginF s b.fn)).boots b.fn none }:CS)=s'
 have e1:s'.qf=s.qf:=by rw [← hs']; rfl
 have e2:s'.acc=s.acc:=by rw [← hs']; rfl
 have ha':s'.ask b.fn=some 0:=(ask_congr (s:=s) (s':=s') e1 e2 b.fn).trans ha
 rw [qBegin_pos ha',← hs']
 rfl
theorem Ok.begin (k:Ok s) {b:Box} (hb:b∈s.boxes) (ha:s.ask b.fn=some 0) (hr:b.runs=false) (hst:b.st=1∨b.st=0):Ok (s.begin b.fn b):=by
 have w':=k.w.begin hb b.fn
 obtain ⟨x,hx,_⟩:=(k.w.b.2 b hb).fn
 have hf:=(k.w.f _ x hx).1
 obtain ⟨hB1,hB2⟩:=beginB_runs (s:=s) hst
 obtain ⟨e1,e2,e3,e4,e5⟩:=beginB_same (s:=s) (b:=b)
 have hform:=begin_form (s:=s) (b:=b) ha
 have hbx:(s.begin b.fn b).boxes=s.boxes.map fun y=>if y.id=(beginB s b).id then beginB s b else y:=by rw [hform]
 have hwo:(s.begin b.fn b).worth=ups2 s.worth b.host b.id none:=by rw [hform]
 have hen:(s.begin b.fn b).ends=ups s.ends b.id none:=by rw [hform]
 have hho:(s.begin b.fn b).hosts=s.hosts:=by rw [hform]
 have hqf:(s.begin b.fn b).qf=upn s.qf b.fn.toNat { s.qf b.fn.toNat with busy:=(s.qf b.fn.toNat).busy+1 }:=by rw [hform]
 have hou:(s.begin b.fn b).out=s.out:=by rw [hform]
 have hnx:(s.begin b.fn b).next=s.next:=by rw [hform]
 clear hform
 generalize s.begin b.fn b=s' at w' hbx hwo hen hho hqf hou hnx ⊢
 have hmem : ∀ y∈s'.boxes,y=beginB s b∨(y∈s.boxes∧y.id≠b.id):=by
  intro y hy
  rw [hbx] at hy
  obtain ⟨z,hz,he⟩:=List.mem_map.1 hy
  split at he
  ·exact .inl he.symm
  ·rename_i hne
   subst he
   exact .inr ⟨hz,by rw [e1] at hne; exact hne⟩
 have hsum : ∀ g:Box→Int,wsum g s'.boxes=wsum g s.boxes-g b+g (beginB s b):=fun g=>by rw [hbx]; exact wsum_repl k.w.b.1 hb e1
 refine ⟨w',⟨fun y hy _=>?_,fun y hy _=>?_,fun y hy=>?_,fun h hh=>?_,fun f hlt=>?_⟩,?_⟩
 ·rw [hwo]
  rcases hmem y hy with rfl | ⟨h1,h2⟩
  ·rw [e1,e3]
   constructor
   ·rintro ⟨w,hw⟩; simp [ups2] at hw
   ·intro h; exact absurd h.1 hB2
  ·unfold ups2
   rw [if_neg (fun h=>h2 h.2)]
   exact k.t.w y h1 fun h=>h
 ·rw [hen]
  rcases hmem y hy with rfl | ⟨h1,h2⟩
  ·rw [e1]
   constructor
   ·rintro ⟨w,hw⟩; simp [ups] at hw
   ·intro h; exact absurd h.1 hB2
  ·unfold ups
   rw [if_neg h2]
   exact k.t.e y h1 fun h=>h
 ·have key : ∀ h,s'.hThere h=s.hThere h:=by intro h; unfold CS.hThere; rw [hho]
  rw [key]
  rcases hmem y hy with rfl | ⟨h1,h2⟩
  ·rw [e3]; exact k.t.h b hb
  ·exact k.t.h y h1
 ·rw [hsum,hho]
  have:memG h (beginB s b)=memG h b:=by unfold memG; rw [e3,e4]
  have:=k.t.u h hh
  omega
 ·rw [hsum,hqf]
  have h3:=k.t.q f hlt
  unfold upn
  split
  ·rename_i e
   subst e
   have h6:runG b.fn.toNat b=0:=by unfold runG; rw [if_neg (by simp [hr])]
   have h7:runG b.fn.toNat (beginB s b)=1:=by unfold runG; rw [if_pos ⟨by rw [e2]; omega,hB1⟩]
   simp only; omega
  ·rename_i e
   have h6:runG f b=0:=by unfold runG; rw [if_neg (by simp [hr])]
   have h7:runG f (beginB s b)=0:=by unfold runG; rw [if_neg (by rw [e2]; omega)]
   omega
 ·have h3:s'.boxes.length=s.boxes.length:=by rw [hbx,List.length_map]
  have:=k.o
  unfold OB deads at *
  rw [hou,hnx,h3]; exact this
theorem Ok.hAdd (k:Ok s) {h size:Int} (he:(s.hAdd h size).2=0):Ok { (s.hAdd h size).1 with clock:=ups (s.hAdd h size).1.clock h 0,worth:=ups (s.hAdd h size).1.worth h fun _=>none }:=by
 unfold CS.hAdd at he ⊢
 split at he
 ·cases he
 ·rename_i h1
  rw [if_neg h1]
  split at he
  ·cases he
  ·rename_i h2
   rw [if_neg h2]
   have hno : ∀ b∈s.boxes,b.host≠h:=by
    intro b hb e
    have:=(hThere_iff.1 (k.t.h b hb)).2
    rw [e] at this; exact h2 this
   have hz:wsum (memG h.toNat) s.boxes=0:=by
    have : ∀ b∈s.boxes,memG h.toNat b=0:=fun b hb=>by unfold memG; rw [if_neg (by have:=hno b hb; omega)]
    clear hno
    generalize s.boxes=l at this
    induction l with
    | nil=>rfl
    | cons x r ih =>
     simp only [wsum]
     rw [this x (List.mem_cons_self ..),ih fun b hb=>this b (List.mem_cons_of_mem _ hb)]; rfl
   have hwm:WMach { there:=true,size:=size }:=by unfold WMach; simp only; omega
   refine ⟨{ k.w with h:=k.w.h.upn _ hwm,w:=⟨fun j i w hw=>?_,fun j=>?_,k.w.w.2.2⟩ },⟨fun b hb _=>?_,k.t.e,fun b hb=>?_,fun j hj=>?_,k.t.q⟩,k.o⟩
   ·have hw:ups s.worth h (fun _=>none) j i=some w:=hw
    unfold ups at hw
    split at hw
    ·cases hw
    ·exact k.w.w.1 j i w hw
   ·show 0≤ups s.clock h 0 j∧ups s.clock h 0 j≤1000000*deads s.boxes s.next
    have h5:=k.w.w.2.2
    have h6:=k.w.w.2.1 j
    unfold ups; split <;> omega
   ·show (∃ w,ups s.worth h (fun _=>none) b.host b.id=some w)↔_
    unfold ups
    rw [if_neg (hno b hb)]
    exact k.t.w b hb fun h=>h
   ·rw [hThere_iff]
    have h3:=hThere_iff.1 (k.t.h b hb)
    refine ⟨h3.1,?_⟩
    show (upn s.hosts h.toNat _ b.host.toNat).there=true
    unfold upn
    split
    ·rfl
    ·exact h3.2
   ·show (upn s.hosts h.toNat _ j).used=_
    unfold upn
    split
    ·rename_i e; subst e; simp only [hz]
    ·exact k.t.u j hj
theorem Ok.hDrain (k:Ok s) {h:Int} (he:(s.hDrain h).2=0):Ok (s.hDrain h).1:=by
 unfold CS.hDrain at he ⊢
 split at he
 ·cases he
 ·rename_i h1
  rw [if_neg h1]
  split at he
  ·cases he
  ·rename_i h2
   rw [if_neg h2]
   have h1':s.hThere h=true:=by simpa using h1
   have hth:=hThere_iff.1 h1'
   have hwm:=k.w.h h.toNat
   refine ⟨k.w.setHosts (k.w.h.upn _ (WMach.swept hwm)),⟨k.t.w,k.t.e,fun b hb=>?_,fun j hj=>?_,k.t.q⟩,k.o⟩
   ·rw [hThere_iff]
    have h3:=hThere_iff.1 (k.t.h b hb)
    refine ⟨h3.1,?_⟩
    show (upn s.hosts h.toNat _ b.host.toNat).there=true
    unfold upn
    split
    ·rename_i e
     have hm:=k.w.mem1 hb
     have h5:memG h.toNat b=b.mem:=by unfold memG; rw [if_pos (by omega)]
     have h7:=k.t.u h.toNat (by omega)
     have h9:=wsum_ge (k.w.memG h.toNat) hb
     unfold CS.swept
     rw [if_neg (by simp; omega)]
     exact hth.2
    ·exact h3.2
   ·show (upn s.hosts h.toNat _ j).used=_
    unfold upn
    split
    ·rename_i e
     subst e
     rw [swept_used,← k.t.u _ hj]
     simp only
     split <;> omega
    ·exact k.t.u j hj
theorem Ok.unpinRun (k:Ok s) {b:Box} (hb:b∈s.boxes) (hr:b.runs=true):Ok (s.setBox { b with pinned:=false }):=by
 have hbb:=k.w.b.2 b hb
 have w1:WF (s.setBox { b with pinned:=false }):=k.w.setBox hb rfl rfl rfl rfl hbb.st hbb.since
 have t1:=k.t.setBox k.w (b:={ b with pinned:=false }) hb rfl rfl rfl rfl rfl
 have hm:({ b with pinned:=false }:Box)∈(s.setBox { b with pinned:=false }).boxes:=setBox_self k.w hb rfl
 refine ⟨w1,t1.fill fun y hy hx=>?_,k.o.setBox⟩
 have hy':y={ b with pinned:=false }:=by
  rcases hx with h | h
  ·exact h.elim
  ·exact same_of w1 hm hy h
 subst hy'
 have hst:b.st≠1:=by
  intro e
  unfold Box.runs at hr
  simp [e] at hr
 have h1:=k.t.w b hb (fun h=>h)
 have h2:=k.t.e b hb (fun h=>h)
 refine ⟨h1.trans ?_,h2.trans ?_⟩ <;> simp [hst]
def drainS (s:CS) (b:Box):CS:=if b.runs then s.setBox { b with pinned:=false } else s.kill b
theorem drainS_keep {y b:Box} (hb:b∈s.boxes) (h:b.id≠y.id):b∈(drainS s y).boxes:=by
 unfold drainS
 split
 ·simp only [CS.setBox,List.mem_map]
  exact ⟨b,hb,by simp [h]⟩
 ·rw [(kill_boxes _ _).1]
  exact List.mem_filter.2 ⟨hb,by simpa using h⟩
theorem Ok.drainS (k:Ok s) {b:Box} (hb:b∈s.boxes):Ok (drainS s b):=by
 unfold Gh.drainS
 split
 ·rename_i h; exact k.unpinRun hb h
 ·exact k.kill hb
theorem Ok.gone (k:Ok s) {b:Box} (hb:b∈s.boxes):Ok (s.gone b) :=
 ⟨k.w.gone hb,k.t.gone k.w hb (fun _ h=>h.elim),by have:=k.o.gone k.w hb; unfold OB; omega⟩
theorem fold_ok {g:CS→Box→CS} (hk : ∀ s b,Ok s→b∈s.boxes→Ok (g s b)) (hm : ∀ (s:CS) y b,b∈s.boxes→b.id≠y.id→b∈(g s y).boxes) :
  ∀ (l:List Box) (s:CS),Ok s→Srt l→(∀ b∈l,b∈s.boxes)→Ok (l.foldl g s)
 | [],s,k,_,_=>k
 | b::r,s,k,hs,h=>by
  rw [Srt,List.pairwise_cons] at hs
  rw [List.foldl_cons]
  exact fold_ok hk hm r _ (hk s b k (h b (List.mem_cons_self ..))) hs.2 fun y hy=>hm s b y (h y (List.mem_cons_of_mem _ hy)) (by have:=hs.1 y hy; omega)
theorem fold_at {g:CS→Box→CS} (hk : ∀ s b,Ok s→b∈s.boxes→Ok (g s b)) (hm : ∀ (s:CS) y b,b∈s.boxes→b.id≠y.id→b∈(g s y).boxes) {l:List Box} (k:Ok s) (hs:Srt l) (h : ∀ b∈l,b∈s.boxes) :
  ∀ j,j≤l.length→Ok ((l.take j).foldl g s) ∧ ∀ i (hi:i<l.length),j≤i→l[i]∈((l.take j).foldl g s).boxes:=by
 intro j
 induction j with
 | zero=>intro _; exact ⟨k,fun i hi _=>h _ (List.getElem_mem hi)⟩
 | succ j ih =>
  intro hj
  obtain ⟨h1,h2⟩:=ih (by omega)
  rw [Go.Ab.foldl_take _ _ _ _ (by omega)]
  refine ⟨hk _ _ h1 (h2 j (by omega) (Nat.le_refl _)),fun i hi hij=>hm _ _ _ (h2 i hi (by omega)) ?_⟩
  have:=List.pairwise_iff_getElem.1 hs j i (by omega) hi (by omega)
  omega
theorem pick_srt (k:Ok s) (p:Box→Bool):Srt (s.pick p):=k.w.b.1.filter _
theorem pick_sub (p:Box→Bool) : ∀ b∈s.pick p,b∈s.boxes:=fun b hb=>(List.mem_filter.1 hb).1
theorem drain_eq (h:Int):s.drain h=if (s.hDrain h).2≠0 then ((s.hDrain h).1,(s.hDrain h).2) else ((((s.hDrain h).1.pick fun b=>b.host==h).foldl drainS (s.hDrain h).1).keepAll,0):=by
 unfold CS.drain drainS
 rfl
theorem hDrain_err {h:Int} (he:(s.hDrain h).2≠0):(s.hDrain h).1=s:=by
 unfold CS.hDrain at *
 split
 ·rfl
 ·rename_i h1
  rw [if_neg h1] at he
  split
  ·rfl
  ·rename_i h2
   rw [if_neg h2] at he
   exact absurd rfl he
theorem Ok.drain (k:Ok s) (h:Int):Ok (s.drain h).1:=by
 rw [drain_eq]
 split
 ·rename_i he; show Ok (s.hDrain h).1; rw [hDrain_err he]; exact k
 ·rename_i he
  have k1:=k.hDrain (h:=h) (by simpa using he)
  exact Ok.keepAll (fold_ok (fun s b k hb=>k.drainS hb) (fun s y b hb h=>drainS_keep hb h) _ _ k1 (pick_srt k1 _) (pick_sub _))
theorem gone_keep {y b:Box} (hb:b∈s.boxes) (h:b.id≠y.id):b∈(s.gone y).boxes:=by
 rw [(gone_boxes s y).1]
 exact List.mem_filter.2 ⟨hb,by simpa using h⟩
theorem fold_gone : ∀ (l:List Box) (s:CS) (b:Box),b∈(l.foldl (fun s b=>s.gone b) s).boxes→b∈s.boxes ∧ ∀ y∈l,b.id≠y.id
 | [],s,b,h=>⟨h,fun y hy=>by cases hy⟩
 | x::r,s,b,h=>by
  rw [List.foldl_cons] at h
  obtain ⟨h1,h2⟩:=fold_gone r _ b h
  rw [(gone_boxes s x).1] at h1
  obtain ⟨h3,h4⟩:=List.mem_filter.1 h1
  refine ⟨h3,fun y hy=>?_⟩
  rcases List.mem_cons.1 hy with rfl | hy
  ·simpa using h4
  ·exact h2 y hy
abbrev goneAll (s:CS) (h:Int):CS:=(s.pick fun b=>b.host==h).foldl (fun s b=>s.gone b) s
theorem Ok.goneAll (k:Ok s) (h:Int):Ok (goneAll s h):=fold_ok (fun s b k hb=>k.gone hb) (fun s y b hb h=>gone_keep hb h) _ _ k (pick_srt k _) (pick_sub _)
theorem goneAll_no (h:Int) : ∀ b∈(goneAll s h).boxes,b.host≠h:=by
 intro b hb e
 obtain ⟨h1,h2⟩:=fold_gone _ _ b hb
 exact h2 b (List.mem_filter.2 ⟨h1,by simpa using e⟩) rfl
theorem Ok.hFail (k:Ok s) {h:Int} (h0:0≤h∧h<32) (hno : ∀ b∈s.boxes,b.host≠h):Ok { s with hosts:=upn s.hosts h.toNat {} }:=by
 have hz:wsum (memG h.toNat) s.boxes=0:=by
  have : ∀ b∈s.boxes,memG h.toNat b=0:=fun b hb=>by unfold memG; rw [if_neg (by have:=hno b hb; omega)]
  clear hno
  generalize s.boxes=l at this
  induction l with
  | nil=>rfl
  | cons x r ih =>
   simp only [wsum]
   rw [this x (List.mem_cons_self ..),ih fun b hb=>this b (List.mem_cons_of_mem _ hb)]; rfl
 refine ⟨k.w.setHosts (k.w.h.upn _ .zero),⟨k.t.w,k.t.e,fun b hb=>?_,fun j hj=>?_,k.t.q⟩,k.o⟩
 ·rw [hThere_iff]
  have h3:=hThere_iff.1 (k.t.h b hb)
  refine ⟨h3.1,?_⟩
  show (upn s.hosts h.toNat _ b.host.toNat).there=true
  unfold upn
  rw [if_neg (by have:=hno b hb; omega)]
  exact h3.2
 ·show (upn s.hosts h.toNat _ j).used=_
  unfold upn
  split
  ·rename_i e; subst e; rw [hz]
  ·exact k.t.u j hj
def failS (s:CS) (h:Int):CS:=if (goneAll s h).hThere h then { goneAll s h with hosts:=upn (goneAll s h).hosts h.toNat {} } else goneAll s h
theorem fail_eq (h:Int):s.fail h=if !s.hThere h then (s,2) else ((failS s h).keepAll,0):=rfl
theorem Ok.failS (k:Ok s) (h:Int):Ok (failS s h):=by
 unfold Gh.failS
 split
 ·rename_i ht; exact (k.goneAll h).hFail (hThere_iff.1 ht).1 (goneAll_no h)
 ·exact k.goneAll h
theorem Ok.fail (k:Ok s) (h:Int):Ok (s.fail h).1:=by
 rw [fail_eq]
 split
 ·exact k
 ·exact (k.failS h).keepAll
end
end Gh

namespace Gh
open CS
section
variable {s : CS}
theorem times_ends {t id:Int} (h:(t,0,id)∈s.times):s.ends id=some t:=by
 unfold CS.times at h
 rcases List.mem_append.1 h with h | h
 ·rw [List.mem_filterMap] at h
  obtain ⟨b,_,hb⟩:=h
  rw [Option.map_eq_some_iff] at hb
  obtain ⟨t',h1,h2⟩:=hb
  simp only [Prod.mk.injEq,true_and] at h2
  rw [← h2.1,← h2.2]; exact h1
 ·rw [List.mem_filterMap] at h
  obtain ⟨f,_,hb⟩:=h
  rw [Option.map_eq_some_iff] at hb
  obtain ⟨t',_,h2⟩:=hb
  simp only [Prod.mk.injEq] at h2
  omega
theorem times_boots {t k id:Int} (hk:k≠0) (h:(t,k,id)∈s.times):k=1∧s.boots id=some t:=by
 unfold CS.times at h
 rcases List.mem_append.1 h with h | h
 ·rw [List.mem_filterMap] at h
  obtain ⟨b,_,hb⟩:=h
  rw [Option.map_eq_some_iff] at hb
  obtain ⟨t',h1,h2⟩:=hb
  simp only [Prod.mk.injEq] at h2
  omega
 ·rw [List.mem_filterMap] at h
  obtain ⟨f,_,hb⟩:=h
  rw [Option.map_eq_some_iff] at hb
  obtain ⟨t',h1,h2⟩:=hb
  simp only [Prod.mk.injEq] at h2
  refine ⟨by omega,?_⟩
  rw [← h2.1,← h2.2.2]; exact h1
theorem due_mem {t k id:Int} (h:s.due=some (t,k,id)):(t,k,id)∈s.times∧t≤s.now:=by
 unfold CS.due at h
 cases hb:best tLt s.times with
 | none=>rw [hb] at h; cases h
 | some x =>
  rw [hb] at h
  simp only at h
  split at h
  ·simp only [Option.some.injEq] at h
   subst h
   exact ⟨best_mem hb,by assumption⟩
  ·cases h
def fire1 (s:CS):Option CS:=match s.due with
 | none=>none
 | some (_,k,id)=>if k=0 then match s.find id with
    | none=>none
    | some b=>some ({ s with ends:=ups s.ends id none }.kill b)
   else some ({ s with boots:=ups s.boots id none }.bootAhead id)
theorem fire_eq (n:Nat):s.fire (n+1)=match fire1 s with
  | some s1=>s1.fire n
  | none=>s:=by
 conv=>lhs; unfold CS.fire
 unfold fire1
 cases s.due with
 | none=>rfl
 | some x =>
  obtain ⟨t,k,id⟩:=x
  simp only
  split
  ·cases s.find id <;> rfl
  ·rfl
theorem Ok.fire1 (k:Ok s) {s1:CS} (h:fire1 s=some s1):Ok s1:=by
 unfold Gh.fire1 at h
 cases hd:s.due with
 | none=>rw [hd] at h; cases h
 | some x =>
  obtain ⟨t,kd,id⟩:=x
  rw [hd] at h
  simp only at h
  have hm:=due_mem hd
  split at h
  ·cases hf:s.find id with
   | none=>rw [hf] at h; cases h
   | some b =>
    rw [hf] at h
    simp only [Option.some.injEq] at h
    subst h
    obtain ⟨hb,rfl⟩:=find_some hf
    exact k.fireKill hb
  ·rename_i hk
   simp only [Option.some.injEq] at h
   subst h
   obtain ⟨_,hbo⟩:=times_boots hk hm.1
   obtain ⟨_,y,hy⟩:=k.w.o id t hbo
   exact (k.unboot id).bootAhead (f:=id) (x:=y) hy
theorem Ok.fire : ∀ n {s:CS},Ok s→Ok (s.fire n):=by
 intro n
 induction n with
 | zero=>intro s k; exact k
 | succ n ih =>
  intro s k
  rw [fire_eq]
  cases h:Gh.fire1 s with
  | none=>exact k
  | some s1=>exact ih (k.fire1 h)
def tickTok (tok:Int→Option Bkt):Int→Option Bkt:=fun a=>(tok a).map fun (b:Bkt)=>({ b with tokens:=min (b.tokens+b.refill) b.size }:Bkt)
def tick0 (s:CS):CS:={ s with now:=s.now+1,tok:=tickTok s.tok }
theorem tick_eq:s.tick=if s.now=maxTime then s else ((tick0 s).fire (s.boxes.length+64)).keepAll:=rfl
theorem WFn.later {x:Fnc} (h:WFn x s.now):WFn x (s.now+1):={ h with last:=⟨h.last.1,by have:=h.last.2; omega⟩ }
theorem Ok.tick0 (k:Ok s) (h:s.now≠maxTime):Ok (tick0 s):=by
 have hn:=k.w.now
 refine ⟨{ k.w with now:=?_,b:=?_,f:=?_,t:=?_ },⟨k.t.w,k.t.e,k.t.h,k.t.u,k.t.q⟩,k.o⟩
 ·show 0≤s.now+1∧s.now+1≤maxTime
  omega
 ·exact k.w.b.imp (Int.le_refl _) (by show s.now≤s.now+1; omega) fun f x hx=>⟨x,hx,rfl⟩
 ·intro f x hx
  obtain ⟨h1,h2,t,ht⟩:=k.w.f f x hx
  exact ⟨h1,WFn.later h2,_,by show tickTok s.tok x.account=_; unfold tickTok; rw [ht]; rfl⟩
 ·intro a b hb
  have hb:tickTok s.tok a=some b:=hb
  unfold tickTok at hb
  cases ht:s.tok a with
  | none=>rw [ht] at hb; cases hb
  | some b0 =>
   rw [ht] at hb
   simp only [Option.map_some,Option.some.injEq] at hb
   subst hb
   have:=k.w.t a b0 ht
   unfold WBkt at *
   simp only; omega
theorem Ok.tick (k:Ok s):Ok s.tick:=by
 rw [tick_eq]
 split
 ·exact k
 ·rename_i h; exact ((k.tick0 h).fire _).keepAll
theorem bnd_bd (n:Int):0≤bnd n∧bnd n≤1000:=by unfold bnd; omega
theorem Ok.setTok (k:Ok s) (a:Int) (b:Bkt) (hb:WBkt b):Ok { s with tok:=ups s.tok a (some b) }:=by
 refine ⟨{ k.w with f:=?_,t:=?_ },⟨k.t.w,k.t.e,k.t.h,k.t.u,k.t.q⟩,k.o⟩
 ·intro f x hx
  obtain ⟨h1,h2,t,ht⟩:=k.w.f f x hx
  refine ⟨h1,h2,?_⟩
  show ∃ t,ups s.tok a (some b) x.account=some t
  unfold ups
  split
  ·exact ⟨b,rfl⟩
  ·exact ⟨t,ht⟩
 ·intro a' b' h
  have h:ups s.tok a (some b) a'=some b':=h
  unfold ups at h
  split at h
  ·simp only [Option.some.injEq] at h; rw [← h]; exact hb
  ·exact k.w.t a' b' h
theorem setAccount_err {a l:Int} (he:(s.setAccount a l).2≠0):(s.setAccount a l).1=s:=by
 unfold CS.setAccount at *
 split
 ·rfl
 ·rename_i h1
  rw [if_neg h1] at he
  split
  ·rfl
  ·rename_i h2
   rw [if_neg h2] at he
   exact absurd rfl he
theorem Ok.setAccount (k:Ok s) (a l:Int):Ok (s.setAccount a l).1:=by
 unfold CS.setAccount
 split
 ·exact k
 ·rename_i h1
  split
  ·exact k
  ·refine ⟨{ k.w with q:=⟨fun i=>?_,k.w.q.lq,k.w.q.lf,k.w.q.ls⟩ },⟨k.t.w,k.t.e,k.t.h,k.t.u,k.t.q⟩,k.o⟩
   show 0≤(upn s.acc a.toNat _ i).limit∧(upn s.acc a.toNat _ i).limit≤1000
   unfold upn
   split
   ·simp only; omega
   ·exact k.w.q.la i
def acctB (s:CS) (e:Ev):Bkt:=match s.tok e.n with
 | some b=>⟨bnd e.size,bnd e.refill,min b.tokens (bnd e.size)⟩
 | none=>⟨bnd e.size,bnd e.refill,bnd e.size⟩
theorem setAccount_tok {a l:Int}:(s.setAccount a l).1.tok=s.tok:=by
 unfold CS.setAccount
 split
 ·rfl
 ·split <;> rfl
theorem account_eq (e:Ev):s.account e=if e.size>1000∨e.refill>1000 then (s,1) else if (s.setAccount e.n e.limit).2≠0 then ((s.setAccount e.n e.limit).1,(s.setAccount e.n e.limit).2) else
  ({ (s.setAccount e.n e.limit).1 with tok:=ups (s.setAccount e.n e.limit).1.tok e.n (some (acctB (s.setAccount e.n e.limit).1 e)) },0):=rfl
theorem Ok.account (k:Ok s) (e:Ev):Ok (s.account e).1:=by
 rw [account_eq]
 split
 ·exact k
 ·split
  ·exact k.setAccount _ _
  ·refine (k.setAccount e.n e.limit).setTok _ _ ?_
   unfold acctB
   have h1:=bnd_bd e.size
   have h2:=bnd_bd e.refill
   split
   ·rename_i b hb
    have:=(k.setAccount e.n e.limit).w.t _ b hb
    unfold WBkt at *
    simp only; omega
   ·unfold WBkt; simp only; omega
theorem setFunc_err {f a r:Int} (he:(s.setFunc f a r).2≠0):(s.setFunc f a r).1=s:=by
 unfold CS.setFunc at *
 split
 ·rfl
 ·rename_i h1
  rw [if_neg h1] at he
  split
  ·rfl
  ·rename_i h2
   rw [if_neg h2] at he
   split
   ·rfl
   ·rename_i h3
    rw [if_neg h3] at he
    split
    ·rfl
    ·rename_i h4
     rw [if_neg h4] at he
     exact absurd rfl he
theorem setFunc_ok {f a r:Int} (he:(s.setFunc f a r).2=0):(0≤f∧f<64)∧(0≤a∧a<16)∧(0≤r∧r≤1000)∧(s.setFunc f a r).1={ s with qf:=upn s.qf f.toNat ⟨true,a,r,(s.qf f.toNat).busy⟩ }:=by
 unfold CS.setFunc at *
 split at he
 ·cases he
 ·rename_i h1
  rw [if_neg h1]
  split at he
  ·cases he
  ·rename_i h2
   rw [if_neg h2]
   split at he
   ·cases he
   ·rename_i h3
    rw [if_neg h3]
    split at he
    ·cases he
    ·rename_i h4
     rw [if_neg h4]
     exact ⟨by omega,by omega,by omega,rfl⟩
def WQf (q:QF):Prop:=(0≤q.account∧q.account<16)∧(0≤q.reserved∧q.reserved≤1000)∧(0≤q.busy∧q.busy≤1000)
def funcX (s:CS) (e:Ev):Fnc:=match s.fns e.n with
 | some x=>{ x with cost:=e.cost,keep:=e.keep }
 | none=>{ account:=e.account,mem:=e.mem,cost:=e.cost,keep:=e.keep,often:=0,last := -1,til:=0,h:={},r:={} }
def badF (e:Ev):Prop:=e.n ≥ 64∨e.account ≥ 16∨e.reserved>1000∨e.keep>1000∨e.mem<1∨e.mem>4096∨e.cost<1∨e.cost>1000
instance (e:Ev):Decidable (badF e):=inferInstanceAs (Decidable (_∨_))
def othF (s:CS) (e:Ev):Bool:=match s.fns e.n with | some x=>x.account != e.account||x.mem != e.mem | none=>false
def funcS (s:CS) (e:Ev):CS:={ (s.setFunc e.n e.account e.reserved).1 with fns:=ups (s.setFunc e.n e.account e.reserved).1.fns e.n (some (funcX s e)) }
theorem function_eq (e:Ev):s.function e=if badF e then (s,1) else if (s.tok e.account).isNone then (s,2) else if othF s e then (s,3) else if e.reserved>0∧e.keep>e.reserved then (s,4) else
  if (s.setFunc e.n e.account e.reserved).2≠0 then ((s.setFunc e.n e.account e.reserved).1,(s.setFunc e.n e.account e.reserved).2) else ((funcS s e).keep e.n,0):=rfl
theorem WHist.zero:WHist {}:=⟨fun _=>Int.le_refl _,by decide +kernel,Int.le_refl _,by decide⟩
theorem WRing.zero:WRing {}:=⟨by decide,fun _=>by unfold maxTime; simp⟩
theorem Ok.funcS (k:Ok s) {e:Ev} (hk:0≤e.keep) (hb : ¬ badF e) (ht : ¬ (s.tok e.account).isNone=true) (ho : ¬ othF s e=true) (he:(s.setFunc e.n e.account e.reserved).2=0):Ok (funcS s e)∧(funcS s e).fns e.n=some (funcX s e):=by
 obtain ⟨hf,ha,hr,hs⟩:=setFunc_ok he
 unfold Gh.funcS
 rw [hs]
 have hfx : ∀ (fns:Int→Option Fnc),ups fns e.n (some (funcX s e)) e.n=some (funcX s e):=fun fns=>by unfold ups; rw [if_pos rfl]
 refine ⟨?_,hfx _⟩
 have hb : ¬ (e.n ≥ 64∨e.account ≥ 16∨e.reserved>1000∨e.keep>1000∨e.mem<1∨e.mem>4096∨e.cost<1∨e.cost>1000):=hb
 obtain ⟨tb,htb⟩ : ∃ t,s.tok e.account=some t:=by
  cases h:s.tok e.account with
  | none=>rw [h] at ht; exact absurd rfl ht
  | some t=>exact ⟨t,rfl⟩
 have hxw:WFn (funcX s e) s.now∧(funcX s e).account=e.account∧(∀ y,s.fns e.n=some y→(funcX s e).mem=y.mem):=by
  have hnw:=k.w.now
  unfold funcX
  cases hy:s.fns e.n with
  | none =>
   refine ⟨⟨by simp only; omega,by simp only; omega,by simp only; omega,by simp only; omega,by simp,by simp only; omega,by simp only; unfold topT; omega,.zero,.zero⟩,rfl,fun y h=>by cases h⟩
  | some y =>
   have hw:=(k.w.f _ y hy).2.1
   unfold othF at ho
   rw [hy] at ho
   simp only [Bool.or_eq_true,bne_iff_ne,ne_eq,not_or,Decidable.not_not] at ho
   refine ⟨{ hw with cost:=by simp only; omega,keep:=by simp only; omega },ho.1,fun z h=>by cases h; rfl⟩
 have himp : ∀ f x,s.fns f=some x → ∃ y,ups s.fns e.n (some (funcX s e)) f=some y∧y.mem=x.mem:=by
  intro f x hx
  unfold ups
  split
  ·rename_i e1
   rw [e1] at hx
   exact ⟨_,rfl,hxw.2.2 x hx⟩
  ·exact ⟨x,hx,rfl⟩
 refine ⟨{ k.w with b:=k.w.b.imp (Int.le_refl _) (Int.le_refl _) himp,o:=?_,f:=?_,q:=⟨k.w.q.la,fun i=>?_,fun i hi=>?_,fun i x hx=>?_⟩ },⟨k.t.w,k.t.e,k.t.h,k.t.u,fun f hlt=>?_⟩,k.o⟩
 ·intro f t h
  obtain ⟨h1,x,hx⟩:=k.w.o f t h
  obtain ⟨y,hy,_⟩:=himp f x hx
  exact ⟨h1,y,hy⟩
 ·intro f x hx
  have hx:ups s.fns e.n (some (funcX s e)) f=some x:=hx
  unfold ups at hx
  split at hx
  ·rename_i e1
   simp only [Option.some.injEq] at hx
   subst hx
   exact ⟨by rw [e1]; exact hf,hxw.1,by rw [hxw.2.1]; exact ⟨tb,htb⟩⟩
  ·exact k.w.f f x hx
 ·have h3:=(k.w.q.lq e.n.toNat).2.2
  have:WQf (upn s.qf e.n.toNat ⟨true,e.account,e.reserved,(s.qf e.n.toNat).busy⟩ i):=by
   unfold upn
   split
   ·exact ⟨ha,hr,h3⟩
   ·exact k.w.q.lq i
  exact this
 ·show (upn s.qf e.n.toNat _ i).there=true ↔ ∃ x,ups s.fns e.n (some (funcX s e)) (i:Int)=some x
  unfold upn ups
  by_cases h:i=e.n.toNat
  ·rw [if_pos h,if_pos (by omega)]; simp
  ·rw [if_neg h,if_neg (by omega)]; exact k.w.q.lf i hi
 ·have hx:ups s.fns e.n (some (funcX s e)) (i:Int)=some x:=hx
  show x.account=(upn s.qf e.n.toNat _ i).account
  unfold ups at hx
  unfold upn
  by_cases h:i=e.n.toNat
  ·rw [if_pos (by omega)] at hx
   simp only [Option.some.injEq] at hx
   rw [if_pos h,← hx]; exact hxw.2.1
  ·rw [if_neg (by omega)] at hx
   rw [if_neg h]; exact k.w.q.ls i x hx
 ·show (upn s.qf e.n.toNat _ f).busy=_
  unfold upn
  split
  ·rename_i e1; subst e1; exact k.t.q _ hlt
  ·exact k.t.q f hlt
theorem Ok.function (k:Ok s) (e:Ev) (hk:0≤e.keep):Ok (s.function e).1:=by
 rw [function_eq]
 split
 ·exact k
 ·split
  ·exact k
  ·split
   ·exact k
   ·split
    ·exact k
    ·split
     ·rename_i he; show Ok (s.setFunc e.n e.account e.reserved).1; rw [setFunc_err he]; exact k
     ·rename_i h1 h2 h3 h4 h5
      obtain ⟨k1,hx⟩:=k.funcS hk h1 h2 h3 (by simpa using h5)
      exact k1.keep hx
theorem host_eq (e:Ev):s.host e=if (s.hAdd e.n e.size).2≠0 then ((s.hAdd e.n e.size).1,(s.hAdd e.n e.size).2) else
  (({ (s.hAdd e.n e.size).1 with clock:=ups (s.hAdd e.n e.size).1.clock e.n 0,worth:=ups (s.hAdd e.n e.size).1.worth e.n fun _=>none }:CS).keepAll,0):=rfl
theorem hAdd_err {h size:Int} (he:(s.hAdd h size).2≠0):(s.hAdd h size).1=s:=by
 unfold CS.hAdd at *
 split
 ·rfl
 ·rename_i h1
  rw [if_neg h1] at he
  split
  ·rfl
  ·rename_i h2
   rw [if_neg h2] at he
   exact absurd rfl he
theorem Ok.host (k:Ok s) (e:Ev):Ok (s.host e).1:=by
 rw [host_eq]
 split
 ·rename_i he; show Ok (s.hAdd e.n e.size).1; rw [hAdd_err he]; exact k
 ·rename_i he; exact (k.hAdd (by simpa using he)).keepAll
theorem freeBox_mem {f:Int} {b:Box} (h:s.freeBox f=some b):b∈s.boxes∧b.fn=f∧b.st=1:=by
 have h':((s.boxes.filter fun b=>b.fn==f&&b.idle).foldl Go.Ab.freeStep none)=some b:=h
 rcases Go.Ab.free_mem h' with h1 | h1
 ·obtain ⟨h2,h3⟩:=List.mem_filter.1 h1
  simp only [Bool.and_eq_true,beq_iff_eq] at h3
  exact ⟨h2,h3.1,by have:=h3.2; unfold Box.idle at this; simpa using this⟩
 ·cases h1
theorem ask_known {f w:Int} (h:s.ask f=some w):s.known f=true:=by
 unfold CS.ask at h
 split at h
 ·cases h
 ·rename_i hk; simpa using hk
theorem ask_fn (w:WF s) {f v:Int} (h:s.ask f=some v) : ∃ x,s.fns f=some x:=by
 have hk:=ask_known h
 unfold CS.known at hk
 simp only [Bool.and_eq_true,decide_eq_true_eq] at hk
 have:=(w.q.lf f.toNat (by omega)).1 hk.2
 rw [Int.toNat_of_nonneg hk.1.1] at this
 exact this
theorem Ok.callWarm (k:Ok s) {f:Int} {b:Box} (ha:s.ask f=some 0) (hb:s.freeBox f=some b):Ok (s.begin f b):=by
 obtain ⟨h1,rfl,h3⟩:=freeBox_mem hb
 exact k.begin h1 ha (by unfold Box.runs; simp [h3]) (.inl h3)
def coldS (s:CS) (x:Fnc) (t:Bkt):CS:={ (s.room x.mem).1 with tok:=ups (s.room x.mem).1.tok x.account (some { t with tokens:=t.tokens-1 }) }
theorem start_box {f h:Int}:(s.start f h).2={ id:=s.next,fn:=f,host:=h,mem:=s.memOf f,since:=s.now }:=rfl
theorem kill_qf {b:Box} (h:b.runs=false):(s.kill b).qf=s.qf:=by
 have e3 : ∀ (s:CS) k m,(s.hGive k m).qf=s.qf:=by
  intro s k m
  unfold CS.hGive
  split <;> rfl
 unfold CS.kill CS.gone
 simp only [h,Bool.false_eq_true,if_false,e3]
 rfl
theorem evict_qf (h mem:Int) : ∀ n {s:CS},Ok s→(s.evict h mem n).qf=s.qf:=by
 intro n
 induction n with
 | zero=>intro s k; rfl
 | succ n ih =>
  intro s k
  simp only [CS.evict]
  split
  ·split
   ·rfl
   ·rename_i w id hbest
    split
    ·rfl
    ·rename_i b hfind
     have hb:=find_some hfind
     have hc:=cands_mem (best_mem hbest)
     obtain rfl:=hb.2
     rw [ih (k.evict1 hc.1 hb.1)]
     obtain ⟨_,h2,_⟩:=cand_host k hc.1 hb.1
     rw [kill_qf (by unfold Box.runs; simp [h2])]
  ·rfl
theorem room_qf (k:Ok s) (mem:Int):(s.room mem).1.qf=s.qf:=by
 unfold CS.room
 split
 ·rfl
 ·split
  ·rfl
  ·exact evict_qf _ _ _ k
theorem Ok.callCold (k:Ok s) {f h:Int} {x:Fnc} {t:Bkt} (ha:s.ask f=some 0) (hx:s.fns f=some x) (ht:s.tok x.account=some t) (h0:t.tokens≠0) (hr:(s.room x.mem).2=some h) :
  Ok (coldS s x t)∧Ok ((coldS s x t).start f h).1∧((coldS s x t).start f h).2∈((coldS s x t).start f h).1.boxes∧Ok (((coldS s x t).start f h).1.begin f ((coldS s x t).start f h).2):=by
 obtain ⟨k1,hk1⟩:=k.room x.mem
 obtain ⟨h1,h2,h3⟩:=hk1 h hr
 have hwt:=k.w.t _ t ht
 have k2:Ok (coldS s x t):=k1.setTok _ _ (by unfold WBkt at *; simp only; omega)
 have hke:=Ke.room s x.mem
 obtain ⟨y,hy,he⟩:=hke.fn hx
 have e1:y.fix.mem=x.fix.mem:=by rw [he]
 have e1:y.mem=x.mem:=e1
 obtain ⟨k3,hm⟩:=k2.start (f:=f) (h:=h) (x:=y) hy h1 h2 (by rw [e1]; exact h3)
 refine ⟨k2,k3,hm,?_⟩
 have ha2:((coldS s x t).start f h).1.ask f=some 0:=by
  have e2:((coldS s x t).start f h).1.qf=s.qf:=by
   have:((coldS s x t).start f h).1.qf=(coldS s x t).qf:=by
    unfold CS.start
    have : ∀ m,((coldS s x t).hTake h m).qf=(coldS s x t).qf:=by intro m; unfold CS.hTake; split <;> rfl
    exact this _
   rw [this]
   exact room_qf k x.mem
  have e3:((coldS s x t).start f h).1.acc=s.acc:=by
   have:((coldS s x t).start f h).1.acc=(coldS s x t).acc:=(Ke.start (coldS s x t) f h).acc
   rw [this]
   exact hke.acc
  rw [ask_congr e2 e3]; exact ha
 exact k3.begin hm ha2 rfl (.inr rfl)
end
end Gh

