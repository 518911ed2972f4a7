/- Part 4 of the proof: what the program's functions do, shown of them one by one, over memory by names. -/
import Derived.Test.YtpllomffpohefaaGreatPC
set_option linter.unusedVariables false
set_option linter.unusedSimpArgs false
namespace Gh
structure Box where
 id:Int
 fn:Int
 host:Int
 mem:Int
 st:Int:=0
 bound:Bool:=false
 pinned:Bool:=false
 since:Int:=0
 deriving DecidableEq,Repr
structure Histo where
 bins:Nat→Int:=fun _=>0
 inn:Int:=0
 over:Int:=0
structure Ring where
 list:Nat→Int:=fun _=>0
 n:Int:=0
structure Fnc where
 account:Int
 mem:Int
 cost:Int
 keep:Int
 often:Int
 last:Int
 til:Int
 h:Histo
 r:Ring
structure QF where
 there:Bool:=false
 account:Int:=0
 reserved:Int:=0
 busy:Int:=0
structure Acc where
 there:Bool:=false
 limit:Int:=0
structure Mach where
 there:Bool:=false
 draining:Bool:=false
 size:Int:=0
 used:Int:=0
 deriving DecidableEq
structure Bkt where
 size:Int
 refill:Int
 tokens:Int
structure Cmd where
 boot:Bool
 box:Int
 fn:Int
 host:Int
 deriving DecidableEq,Repr
structure Ans where
 kind:Int
 box:Int
 why:Int
 err:Int
 deriving DecidableEq,Repr
structure Ev where
 kind:Int
 n:Int
 limit:Int
 size:Int
 refill:Int
 account:Int
 mem:Int
 cost:Int
 reserved:Int
 keep:Int
 deriving DecidableEq,Repr
structure Win where
 how:Int
 pre:Int
 stop:Int
 deriving DecidableEq,Repr
def ups {α:Type} (f:Int→α) (i:Int) (v:α):Int→α:=fun j=>if j=i then v else f j
def ups2 {α:Type} (f:Int→Int→α) (h i:Int) (v:α):Int→Int→α:=fun k j=>if k=h∧j=i then v else f k j
def upn {α:Type} (f:Nat→α) (i:Nat) (v:α):Nat→α:=fun j=>if j=i then v else f j
def maxI:Int:=2 ^ 63-1
def part (n up down:Int):Int × Int :=
 if n<0∨up<0∨down≤0 then (0,0)
 else if n*up / down≤maxI then (n*up / down,n*up % down)
 else if n*up / down<2 ^ 64 then (maxI,n*up % down) else (maxI,0)
def frac (n up down:Int):Int:=(part n up down).1
def fracUp (n up down:Int):Int:=if (part n up down).2>0 then min ((part n up down).1+1) maxI else (part n up down).1
def sumN (f:Nat→Int):Nat→Int
 | 0=>0
 | n+1=>sumN f n+f n
def Histo.halve (h:Histo):Histo :=
 let b:=fun i=>(h.bins i) / 2
 { bins:=b,inn:=sumN b 240,over:=h.over / 2 }
def Histo.add (h:Histo) (idle:Int):Histo :=
 if idle<0 then h else
 let h':Histo:=if idle<240 then { h with bins:=upn h.bins idle.toNat (h.bins idle.toNat+1),inn:=h.inn+1 } else { h with over:=h.over+1 }
 if h'.inn+h'.over ≥ 4096 then h'.halve else h'
def cutFrom (h:Histo) (p:Int):Nat→Nat→Int→Int
 | 0,_,_=>239
 | k+1,i,sum=>if sum+h.bins i>0∧(sum+h.bins i)*100 ≥ p*h.inn then i else cutFrom h p k (i+1) (sum+h.bins i)
def Histo.cut (h:Histo) (p:Int):Int:=if h.inn=0 then 0 else cutFrom h p 240 0 0
def Histo.spread (h:Histo):Bool:=decide (h.inn>0∧240*sumN (fun i=>h.bins i*h.bins i) 240 ≥ 5*h.inn*h.inn)
def Ring.push (r:Ring) (x:Int):Ring:={ list:=upn r.list (r.n % 8).toNat x,n:=if r.n+1=16 then 8 else r.n+1 }
def Ring.len (r:Ring):Int:=min r.n 8
def Ring.all (r:Ring):List Int:=(List.range r.len.toNat).map fun (j:Nat)=>r.list (((r.n-r.len+(j:Int)) % 8).toNat)
def clamp (n lo hi:Int):Int:=max lo (min n hi)
def maxTime:Int:=2 ^ 40
def castSums (l:List Int):Nat→Int × Int × Int × Int
 | 0=>(0,0,0,0)
 | i+1 =>
  let p:=castSums l i
  let v:=clamp (l.getD i 0) 0 maxTime
  (p.1+i,p.2.1+v,p.2.2.1+i*i,p.2.2.2+i*v)
def castNext (l:List Int):Int :=
 let n:Int:=l.length
 let p:=castSums l l.length
 if n=0 then 0 else if n=1 then p.2.1 else
 let d:=n*p.2.2.1-p.1*p.1
 let up:=p.2.1*d+(n*p.2.2.2-p.1*p.2.1)*(n*n-p.1)
 if up<0 then 0 else clamp (up / (n*d)) 0 maxTime
def winOf (h:Histo) (r:Ring):Win :=
 if h.inn+h.over<4 then ⟨0,0,10⟩
 else if 2*h.over>h.inn+h.over then
  let i:=castNext r.all
  ⟨2,frac i 85 100,max (fracUp i 115 100) (frac i 85 100+1)⟩
 else if !h.spread then ⟨0,0,10⟩
 else ⟨1,frac (h.cut 5) 9 10,fracUp (h.cut 99+1) 11 10⟩
structure CS where
 now:Int:=0
 next:Int:=1
 acc:Nat→Acc:=fun _=>{}
 qf:Nat→QF:=fun _=>{}
 tok:Int→Option Bkt:=fun _=>none
 fns:Int→Option Fnc:=fun _=>none
 hosts:Nat→Mach:=fun _=>{}
 clock:Int→Int:=fun _=>0
 boxes:List Box:=[]
 ahead:Int→Option Int:=fun _=>none
 ends:Int→Option Int:=fun _=>none
 worth:Int→Int→Option (Int × Int):=fun _ _=>none
 boots:Int→Option Int:=fun _=>none
 out:List Cmd:=[]
 ans:Nat→Int:=fun _=>0
def Box.runs (b:Box):Bool:=b.st==2||(b.st==0&&b.bound)
def Box.idle (b:Box):Bool:=b.st==1
namespace CS
def find (s:CS) (id:Int):Option Box:=s.boxes.find? fun b=>b.id==id
def setBox (s:CS) (b:Box):CS:={ s with boxes:=s.boxes.map fun x=>if x.id=b.id then b else x }
def pick (s:CS) (p:Box→Bool):List Box:=s.boxes.filter p
def known (s:CS) (f:Int):Bool:=decide (0≤f)&&decide (f<64)&&(s.qf f.toNat).there
def sums (s:CS) (a:Int):Nat→Int × Int × Int
 | 0=>(0,0,0)
 | i+1 =>
  let p:=sums s a i
  let f:=s.qf i
  if !f.there||f.account != a then p
  else (p.1+f.reserved,p.2.1+f.busy,if f.reserved=0 then p.2.2+f.busy else p.2.2)
def setAccount (s:CS) (a limit:Int):CS × Int :=
 if a<0∨a ≥ 16∨limit<0∨limit>1000 then (s,1)
 else if limit<(s.sums a 64).1 then (s,4)
 else ({ s with acc:=upn s.acc a.toNat ⟨true,limit⟩ },0)
def setFunc (s:CS) (f a reserved:Int):CS × Int :=
 if f<0∨f ≥ 64∨a<0∨a ≥ 16∨reserved<0∨reserved>1000 then (s,1)
 else if !(s.acc a.toNat).there then (s,2)
 else if (s.qf f.toNat).there&&(s.qf f.toNat).account != a then (s,3)
 else if (s.sums a 64).1-(s.qf f.toNat).reserved+reserved>(s.acc a.toNat).limit then (s,4)
 else ({ s with qf:=upn s.qf f.toNat ⟨true,a,reserved,(s.qf f.toNat).busy⟩ },0)
def ask (s:CS) (f:Int):Option Int :=
 if !s.known f then none else
 let x:=s.qf f.toNat
 let limit:=(s.acc x.account.toNat).limit
 let p:=s.sums x.account 64
 if x.reserved>0∧x.busy ≥ x.reserved then some 1
 else if p.2.1 ≥ limit∨(x.reserved=0∧p.2.2 ≥ limit-p.1) then some 2
 else some 0
def qBegin (s:CS) (f:Int):CS:=if s.ask f=some 0 then { s with qf:=upn s.qf f.toNat { s.qf f.toNat with busy:=(s.qf f.toNat).busy+1 } } else s
def qEnd (s:CS) (f:Int):CS:=if s.known f&&(s.qf f.toNat).busy != 0 then { s with qf:=upn s.qf f.toNat { s.qf f.toNat with busy:=(s.qf f.toNat).busy-1 } } else s
def busy (s:CS) (f:Int):Int:=if s.known f then (s.qf f.toNat).busy else 0
def hThere (s:CS) (h:Int):Bool:=decide (0≤h)&&decide (h<32)&&(s.hosts h.toNat).there
def up (s:CS) (h:Int):Bool:=s.hThere h && !(s.hosts h.toNat).draining
def free (s:CS) (h:Int):Int:=if s.hThere h then (s.hosts h.toNat).size-(s.hosts h.toNat).used else 0
def swept (m:Mach):Mach:=if m.draining&&m.used==0 then {} else m
def hTake (s:CS) (h mem:Int):CS:=if !s.up h∨mem<0∨mem>s.free h then s else { s with hosts:=upn s.hosts h.toNat { s.hosts h.toNat with used:=(s.hosts h.toNat).used+mem } }
def hGive (s:CS) (h mem:Int):CS:=if !s.hThere h∨mem<0∨mem>(s.hosts h.toNat).used then s else { s with hosts:=upn s.hosts h.toNat (swept { s.hosts h.toNat with used:=(s.hosts h.toNat).used-mem }) }
def fitN (s:CS) (mem:Int):Nat→Option Int
 | 0=>none
 | h+1=>match fitN s mem h with
  | none=>if s.up h&&decide (0≤mem)&&decide (mem≤s.free h) then some h else none
  | some b=>if s.up h&&decide (0≤mem)&&decide (mem≤s.free h)&&decide (s.free h<s.free b) then some (h:Int) else some b
def fit (s:CS) (mem:Int):Option Int:=s.fitN mem 32
def hAdd (s:CS) (h size:Int):CS × Int :=
 if h<0∨h ≥ 32∨size<1∨size>4096 then (s,1)
 else if (s.hosts h.toNat).there then (s,3)
 else ({ s with hosts:=upn s.hosts h.toNat { there:=true,size:=size } },0)
def hDrain (s:CS) (h:Int):CS × Int :=
 if !s.hThere h then (s,2)
 else if (s.hosts h.toNat).draining then (s,3)
 else ({ s with hosts:=upn s.hosts h.toNat (swept { s.hosts h.toNat with draining:=true }) },0)
def take (s:CS) (b:Box):CS:={ s with worth:=ups2 s.worth b.host b.id none,ends:=ups s.ends b.id none }
def setFn (s:CS) (f:Int) (g:Fnc→Fnc):CS:={ s with fns:=ups s.fns f ((s.fns f).map g) }
def ended (s:CS) (f:Int):CS:=(s.qEnd f).setFn f fun x=>{ x with last:=s.now }
def gone (s:CS) (b:Box):CS :=
 let s1:=s.take b
 let s2:=if b.runs then s1.ended b.fn else s1
 let s3:=s2.hGive b.host b.mem
 { s3 with boxes:=s3.boxes.filter (fun x=>x.id != b.id),ahead:=ups s3.ahead b.id none }
def kill (s:CS) (b:Box):CS :=
 let s1:=s.gone b
 { s1 with out:=s1.out++[⟨false,b.id,b.fn,b.host⟩] }
def worthOf (s:CS) (b:Box):Option (Int × Int):=(s.fns b.fn).map fun x=>(s.clock b.host*x.mem+x.often*x.cost,x.mem)
def idle (s:CS) (b:Box) (stop:Int):CS :=
 if stop≤s.now then s.kill b
 else { s with worth:=ups2 s.worth b.host b.id (s.worthOf b),ends:=ups s.ends b.id (some stop) }
def win (s:CS) (f:Int):Win:=match s.fns f with
 | some x=>winOf x.h x.r
 | none=>⟨0,0,0⟩
def memOf (s:CS) (f:Int):Int:=match s.fns f with
 | some x=>x.mem
 | none=>0
def start (s:CS) (f h:Int):CS × Box :=
 let b:Box:={ id:=s.next,fn:=f,host:=h,mem:=s.memOf f,since:=s.now }
 let s1:=s.hTake h (s.memOf f)
 ({ s1 with next:=s.next+1,boxes:=s1.boxes++[b],out:=s1.out++[⟨true,s.next,f,h⟩] },b)
def wLt (a b:(Int × Int) × Int):Bool:=decide (a.1.1*b.1.2<b.1.1*a.1.2)||(decide (a.1.1*b.1.2=b.1.1*a.1.2)&&decide (a.2<b.2))
def best {α:Type} (lt:α→α→Bool):List α→Option α
 | []=>none
 | x::r=>match best lt r with
  | none=>some x
  | some y=>if lt y x then some y else some x
def cands (s:CS) (h:Int):List ((Int × Int) × Int):=s.boxes.filterMap fun b=>(s.worth h b.id).map fun w=>(w,b.id)
def evict (s:CS) (h mem:Int):Nat→CS
 | 0=>s
 | n+1=>if s.free h<mem then match best wLt (s.cands h) with
   | none=>s
   | some (w,id)=>match s.find id with
    | none=>s
    | some b=>evict ({ s with worth:=ups2 s.worth h id none,clock:=ups s.clock h (max (s.clock h) (w.1 / w.2)) }.kill b) h mem n
  else s
def sumL (l:List Int):Int:=l.foldl (· + ·) 0
def loose (s:CS) (h:Int):Int:=sumL ((s.pick fun b=>b.host==h&&b.idle && !b.pinned).map fun b=>b.mem)
def room (s:CS) (mem:Int):CS × Option Int:=match s.fit mem with
 | some h=>(s,some h)
 | none=>match (List.range 32).find? fun (h:Nat)=>s.up (h:Int)&&decide (mem≤s.free (h:Int)+s.loose (h:Int)) with
  | none=>(s,none)
  | some h=>(s.evict h mem s.boxes.length,some (h:Int))
def pinned (s:CS) (f:Int):List Box:=s.pick fun b=>b.fn==f&&b.pinned
def spare (s:CS) (f:Int):Option Box :=
 let t:=fun st=>(s.pick fun b=>b.fn==f && !b.pinned&&b.st==st&&s.up b.host).head?
 ((t 1).or (t 0)).or (t 2)
def unpin (s:CS) (f:Int) (b:Box):CS :=
 let s1:=s.setBox { b with pinned:=false }
 if b.idle then s1.idle { b with pinned:=false } (s.now+(s.win f).stop) else s1
def pin (s:CS) (b:Box):CS:=(s.take b).setBox { b with pinned:=true }
def pin1 (s:CS) (f:Int):Option CS:=match s.spare f with
 | some b=>some (s.pin b)
 | none=>match (s.room (s.memOf f)).2 with
  | none=>none
  | some h=>some (((s.room (s.memOf f)).1.start f h).1.pin ((s.room (s.memOf f)).1.start f h).2)
def pins (f:Int):Nat→CS→CS
 | 0,s=>s
 | n+1,s=>match s.pin1 f with
  | some s1=>pins f n s1
  | none=>s
def keepOf (s:CS) (f:Int):Nat:=match s.fns f with
 | some x=>x.keep.toNat
 | none=>0
def keep (s:CS) (f:Int):CS :=
 let s1:=((s.pinned f).drop (s.keepOf f)).reverse.foldl (fun s b=>s.unpin f b) s
 pins f (s.keepOf f-(s1.pinned f).length) s1
def keepAll (s:CS):CS:=(List.range 64).foldl (fun s (f:Nat)=>match s.fns f with | some _=>s.keep f | none=>s) s
def bootAhead (s:CS) (f:Int):CS :=
 if (s.pick fun b=>b.fn==f).length>0 then s else
 match s.fns f with
 | none=>s
 | some x=>match s.fit x.mem with
  | none=>s
  | some h=>let p:=s.start f h
   { p.1 with ahead:=ups p.1.ahead p.2.id (some x.til) }
def tLt (a b:Int × Int × Int):Bool:=decide (a.1<b.1)||(decide (a.1=b.1)&&(decide (a.2.1<b.2.1)||(decide (a.2.1=b.2.1)&&decide (a.2.2<b.2.2))))
def times (s:CS):List (Int × Int × Int) :=
 (s.boxes.filterMap fun b=>(s.ends b.id).map fun t=>(t,0,b.id))++(List.range 64).filterMap fun (f:Nat)=>(s.boots f).map fun t=>(t,1,(f:Int))
def due (s:CS):Option (Int × Int × Int):=match best tLt s.times with
 | some x=>if x.1≤s.now then some x else none
 | none=>none
def fire (s:CS):Nat→CS
 | 0=>s
 | n+1=>match s.due with
  | none=>s
  | some (_,k,id)=>if k=0 then match s.find id with
     | none=>s
     | some b=>fire ({ s with ends:=ups s.ends id none }.kill b) n
    else fire ({ s with boots:=ups s.boots id none }.bootAhead id) n
def tick (s:CS):CS :=
 if s.now=maxTime then s else
 let s1:={ s with now:=s.now+1,tok:=fun a=>(s.tok a).map fun (b:Bkt)=>({ b with tokens:=min (b.tokens+b.refill) b.size }:Bkt) }
 (s1.fire (s1.boxes.length+64)).keepAll
def bnd (n:Int):Int:=max 0 (min n 1000)
def account (s:CS) (e:Ev):CS × Int :=
 if e.size>1000∨e.refill>1000 then (s,1) else
 match s.setAccount e.n e.limit with
 | (s1,err)=>if err≠0 then (s1,err) else
  ({ s1 with tok:=ups s1.tok e.n (some (match s1.tok e.n with
    | some b=>⟨bnd e.size,bnd e.refill,min b.tokens (bnd e.size)⟩
    | none=>⟨bnd e.size,bnd e.refill,bnd e.size⟩)) },0)
def function (s:CS) (e:Ev):CS × Int :=
 if e.n ≥ 64∨e.account ≥ 16∨e.reserved>1000∨e.keep>1000∨e.mem<1∨e.mem>4096∨e.cost<1∨e.cost>1000 then (s,1)
 else if (s.tok e.account).isNone then (s,2)
 else if (match s.fns e.n with | some x=>x.account != e.account||x.mem != e.mem | none=>false) then (s,3)
 else if e.reserved>0∧e.keep>e.reserved then (s,4)
 else match s.setFunc e.n e.account e.reserved with
 | (s1,err)=>if err≠0 then (s1,err) else
  let x:Fnc:=match s.fns e.n with
   | some x=>{ x with cost:=e.cost,keep:=e.keep }
   | none=>{ account:=e.account,mem:=e.mem,cost:=e.cost,keep:=e.keep,often:=0,last := -1,til:=0,h:={},r:={} }
  ({ s1 with fns:=ups s1.fns e.n (some x) }.keep e.n,0)
def host (s:CS) (e:Ev):CS × Int:=match s.hAdd e.n e.size with
 | (s1,err)=>if err≠0 then (s1,err) else ({ s1 with clock:=ups s1.clock e.n 0,worth:=ups s1.worth e.n fun _=>none }.keepAll,0)
def drain (s:CS) (h:Int):CS × Int:=match s.hDrain h with
 | (s1,err)=>if err≠0 then (s1,err) else
  (((s1.pick fun b=>b.host==h).foldl (fun s b=>if b.runs then s.setBox { b with pinned:=false } else s.kill b) s1).keepAll,0)
def fail (s:CS) (h:Int):CS × Int :=
 if !s.hThere h then (s,2) else
 let s1:=(s.pick fun b=>b.host==h).foldl (fun s b=>s.gone b) s
 let s2:=if s1.hThere h then { s1 with hosts:=upn s1.hosts h.toNat {} } else s1
 (s2.keepAll,0)
def freeBox (s:CS) (f:Int):Option Box:=(s.pick fun b=>b.fn==f&&b.idle).foldl (fun o b=>match o with
 | none=>some b
 | some x=>if b.since>x.since then some b else some x) none
def begin (s:CS) (f:Int) (b:Box):CS :=
 let s1:=s.setFn f fun x =>
  let x1:=if s.busy f=0∧x.last ≥ 0 then { x with h:=x.h.add (s.now-x.last),r:=x.r.push (s.now-x.last) } else x
  { x1 with often:=min (x1.often+1) 1000 }
 let s2:={ s1 with boots:=ups s1.boots f none }
 let s3:=s2.qBegin f
 let s4:=s3.take b
 s4.setBox (if b.st=1 then { b with st:=2,since:=s.now } else if b.st=0 ∧ !b.bound then { b with bound:=true } else b)
def call (s:CS) (f:Int):CS × Ans:=match s.ask f with
 | none=>(s,⟨1,0,0,2⟩)
 | some why=>if why=1 then (s,⟨4,0,1,0⟩) else if why=2 then (s,⟨4,0,2,0⟩) else
  match s.freeBox f with
  | some b=>(s.begin f b,⟨2,b.id,0,0⟩)
  | none=>match s.fns f with
   | none=>(s,⟨0,0,0,0⟩)
   | some x=>match s.tok x.account with
    | none=>(s,⟨0,0,0,0⟩)
    | some t=>if t.tokens=0 then (s,⟨4,0,3,0⟩) else
     match s.room x.mem with
     | (_,none)=>(s,⟨4,0,4,0⟩)
     | (s1,some h) =>
      let s2:={ s1 with tok:=ups s1.tok x.account (some { t with tokens:=t.tokens-1 }) }
      let p:=s2.start f h
      (p.1.begin f p.2,⟨3,p.2.id,0,0⟩)
def booted (s:CS) (id:Int):CS × Int:=match s.find id with
 | none=>(s,2)
 | some b=>if b.st≠0 then (s,3) else
  let b1:Box:=if b.bound then { b with st:=2,bound:=false,since:=s.now } else { b with st:=1,since:=s.now }
  let s1:={ s.setBox b1 with ahead:=ups s.ahead id none }
  let stop:=match s.ahead id with
   | some t=>t
   | none=>s.now+(s.win b.fn).stop
  (if b1.idle && !b1.pinned then s1.idle b1 stop else s1,0)
def broke (s:CS) (id:Int):CS × Int:=match s.find id with
 | none=>(s,2)
 | some b=>((s.gone b).keep b.fn,0)
def done (s:CS) (id:Int):CS × Int:=match s.find id with
 | none=>(s,2)
 | some b=>if b.st≠2 then (s,3) else
  let b1:Box:={ b with st:=1,since:=s.now }
  let s1:=(s.setBox b1).ended b.fn
  let w:=s1.win b.fn
  (if !s1.up b.host then s1.kill b1
  else if b.pinned then s1
  else if w.pre>0 then
   let s2:=s1.setFn b.fn fun x=>{ x with til:=s.now+w.stop }
   { s2 with boots:=ups s2.boots b.fn (some (s.now+w.pre)) }.kill b1
  else s1.idle b1 (s.now+w.stop),0)
def act (s:CS) (e:Ev):CS × Ans :=
 let r (p:CS × Int):CS × Ans:=(p.1,if p.2≠0 then ⟨1,0,0,p.2⟩ else ⟨0,0,0,0⟩)
 if e.kind=0 then r (s.tick,0)
 else if e.kind=1 then r (s.account e)
 else if e.kind=2 then r (s.function e)
 else if e.kind=3 then r (s.host e)
 else if e.kind=4 then r (s.drain e.n)
 else if e.kind=5 then r (s.fail e.n)
 else if e.kind=6 then s.call e.n
 else if e.kind=7 then r (s.booted e.n)
 else if e.kind=8 then r (s.broke e.n)
 else r (s.done e.n)
end CS
def inr (n:Int):Prop:=0≤n∧n≤2147483647
instance (n:Int):Decidable (inr n):=inferInstanceAs (Decidable (_∧_))
def Ev.zero (k:Int):Ev:=⟨k,0,0,0,0,0,0,0,0,0⟩
def Ev.right (e:Ev):Bool :=
 if e.kind=0 then e==Ev.zero 0
 else if e.kind=1 then decide (inr e.n∧inr e.limit∧inr e.size∧inr e.refill)&&e=={ Ev.zero 1 with n:=e.n,limit:=e.limit,size:=e.size,refill:=e.refill }
 else if e.kind=2 then decide (inr e.n∧inr e.account∧inr e.mem∧inr e.cost∧inr e.reserved∧inr e.keep)&&e=={ Ev.zero 2 with n:=e.n,account:=e.account,mem:=e.mem,cost:=e.cost,reserved:=e.reserved,keep:=e.keep }
 else if e.kind=3 then decide (inr e.n∧inr e.size)&&e=={ Ev.zero 3 with n:=e.n,size:=e.size }
 else decide (4≤e.kind∧e.kind≤9∧inr e.n)&&e=={ Ev.zero e.kind with n:=e.n }
def CS.step (s:CS) (e:Ev):CS × Ans × List Cmd :=
 if !e.right then (s,⟨1,0,0,1⟩,[]) else
 let p:=CS.act { s with out:=[] } e
 ({ p.1 with ans:=upn p.1.ans p.2.kind.toNat (p.1.ans p.2.kind.toNat+1) },p.2,p.1.out)
end Gh

namespace Gh
abbrev Mk:=Int × Int × Int
structure Ord (lt:Mk→Mk→Bool):Prop where
 irr : ∀ a,lt a a=false
 tr : ∀ a b c,lt a b=true→lt b c=true→lt a c=true
 nt : ∀ a b c,lt a b=false→lt b c=false→lt a c=false
theorem Ord.asym {lt:Mk→Mk→Bool} (h:Ord lt) {a b:Mk} (hab:lt a b=true):lt b a=false:=by
 cases hb:lt b a with
 | false=>rfl
 | true =>
  have:=h.tr a b a hab hb
  rw [h.irr] at this; cases this
theorem Ord.nlt {lt:Mk→Mk→Bool} (h:Ord lt) {b c p:Mk} (h1:lt b p=true) (h2:lt c p=false):lt c b=false:=by
 cases hb:lt c b with
 | false=>rfl
 | true =>
  have:=h.tr c b p hb h1
  rw [h2] at this; cases this
def par (j:Nat):Nat:=(j-1) / 2
def swp {α:Type} (g:Nat→α) (i j:Nat):Nat→α:=fun k=>if k=j then g i else if k=i then g j else g k
section
variable {lt : Mk → Mk → Bool} {n : Nat} {g : Nat → Mk}
def HeapOk (lt:Mk→Mk→Bool) (n:Nat) (g:Nat→Mk):Prop := ∀ j,0<j→j<n→lt (g j) (g (par j))=false
def UpOk (lt:Mk→Mk→Bool) (n:Nat) (g:Nat→Mk) (i:Nat):Prop :=
 (∀ j,0<j→j<n→j≠i→lt (g j) (g (par j))=false)∧(0<i → ∀ j,0<j→j<n→par j=i→lt (g j) (g (par i))=false)
def DownOk (lt:Mk→Mk→Bool) (n:Nat) (g:Nat→Mk) (i:Nat):Prop :=
 (∀ j,0<j→j<n→par j≠i→lt (g j) (g (par j))=false)∧(0<i → ∀ j,0<j→j<n→par j=i→lt (g j) (g (par i))=false)
def Hole (lt:Mk→Mk→Bool) (n:Nat) (g:Nat→Mk) (i:Nat):Prop :=
 (∀ j,0<j→j<n→j≠i→par j≠i→lt (g j) (g (par j))=false)∧(0<i → ∀ j,0<j→j<n→par j=i→lt (g j) (g (par i))=false)
theorem par_lt {j:Nat} (h:0<j):par j<j:=by unfold par; omega
theorem par_ne {j:Nat} (h:0<j):par j≠j:=by unfold par; omega
theorem UpOk.ok {i:Nat} (h:UpOk lt n g i) (hi:i=0∨n≤i∨lt (g i) (g (par i))=false):HeapOk lt n g:=by
 intro j h1 h2
 by_cases he:j=i
 ·subst he
  rcases hi with hi | hi | hi
  ·omega
  ·omega
  ·exact hi
 ·exact h.1 j h1 h2 he
theorem Hole.up (ho:Ord lt) {i:Nat} (h:Hole lt n g i) (h0:0<i) (hl:lt (g i) (g (par i))=true):UpOk lt n g i:=by
 refine ⟨fun j h1 h2 h3=>?_,h.2⟩
 by_cases hp:par j=i
 ·rw [hp]
  exact ho.nlt hl (h.2 h0 j h1 h2 hp)
 ·exact h.1 j h1 h2 h3 hp
theorem Hole.down {i:Nat} (h:Hole lt n g i) (hi:i=0∨lt (g i) (g (par i))=false):DownOk lt n g i:=by
 refine ⟨fun j h1 h2 h3=>?_,h.2⟩
 by_cases he:j=i
 ·subst he
  rcases hi with hi | hi
  ·omega
  ·exact hi
 ·exact h.1 j h1 h2 he h3
theorem UpOk.step (ho:Ord lt) {i:Nat} (h:UpOk lt n g i) (h0:0<i) (hl:lt (g i) (g (par i))=true):UpOk lt n (swp g i (par i)) (par i):=by
 have hpl:=par_lt h0
 constructor
 ·intro j h1 h2 h3
  have hj:=par_lt h1
  unfold swp
  by_cases hji:j=i
  ·subst hji
   have:par j≠j:=by omega
   simp only [h3,if_false,if_true]
   exact ho.asym hl
  ·simp only [h3,hji,if_false]
   by_cases hp:par j=par i
   ·rw [if_pos hp]
    have:=h.1 j h1 h2 hji
    rw [hp] at this
    exact ho.nlt hl this
   ·rw [if_neg hp]
    by_cases hq:par j=i
    ·rw [if_pos hq]; exact h.2 h0 j h1 h2 hq
    ·rw [if_neg hq]; exact h.1 j h1 h2 hji
 ·intro hp0 j h1 h2 h3
  have hpp:=par_lt hp0
  have hj:=par_lt h1
  have e1:par (par i)≠par i:=by omega
  have e2:par (par i)≠i:=by omega
  have e3:j≠par i:=by omega
  unfold swp
  rw [if_neg e3,if_neg e1,if_neg e2]
  have hpar:=h.1 (par i) hp0 (by
   by_cases hji:j=i
   ·subst hji; omega
   ·omega) (by omega)
  by_cases hji:j=i
  ·rw [if_pos hji]; exact hpar
  ·rw [if_neg hji]
   have:=h.1 j h1 h2 hji
   rw [h3] at this
   exact ho.nt _ _ _ this hpar
theorem DownOk.step (ho:Ord lt) {i c:Nat} (h:DownOk lt n g i) (hc0:0<c) (hcn:c<n) (hpc:par c=i) (hl:lt (g c) (g i)=true)
  (hleast : ∀ j,0<j→j<n→par j=i→lt (g j) (g c)=false):DownOk lt n (swp g i c) c:=by
 have hci:=par_lt hc0
 constructor
 ·intro j h1 h2 h3
  have hj:=par_lt h1
  unfold swp
  by_cases hjc:j=c
  ·rw [if_pos hjc,hjc,hpc]
   rw [if_neg (by omega),if_pos rfl]
   exact ho.asym hl
  ·rw [if_neg hjc,if_neg h3]
   by_cases hji:j=i
   ·rw [if_pos hji,hji]
    have hi0:0<i:=by omega
    have hpi:=par_lt hi0
    rw [if_neg (by omega)]
    exact h.2 hi0 c hc0 hcn hpc
   ·rw [if_neg hji]
    by_cases hp:par j=i
    ·rw [if_pos hp]; exact hleast j h1 h2 hp
    ·rw [if_neg hp]; exact h.1 j h1 h2 hp
 ·intro _ j h1 h2 h3
  have hj:=par_lt h1
  unfold swp
  rw [if_neg (show j≠c by omega),if_neg (show j≠i by omega),hpc,if_neg (show i≠c by omega),if_pos rfl]
  have:=h.1 j h1 h2 (by rw [h3]; omega)
  rw [h3] at this; exact this
theorem DownOk.ok {i:Nat} (h:DownOk lt n g i) (hc : ∀ j,0<j→j<n→par j=i→lt (g j) (g i)=false):HeapOk lt n g:=by
 intro j h1 h2
 by_cases hp:par j=i
 ·rw [hp]; exact hc j h1 h2 hp
 ·exact h.1 j h1 h2 hp
theorem HeapOk.least (ho:Ord lt) (h:HeapOk lt n g) : ∀ j,j<n→lt (g j) (g 0)=false:=by
 intro j
 induction j using Nat.strongRecOn with
 | ind j ih =>
  intro hj
  by_cases h0:j=0
  ·subst h0; exact ho.irr _
  ·have hp:=par_lt (Nat.pos_of_ne_zero h0)
   exact ho.nt _ _ _ (h j (Nat.pos_of_ne_zero h0) hj) (ih _ hp (by omega))
theorem HeapOk.snoc (h:HeapOk lt n g) (x:Mk):Hole lt (n+1) (fun k=>if k=n then x else g k) n:=by
 constructor
 ·intro j h1 h2 h3 h4
  simp only [h3,h4,if_false]
  exact h j h1 (by omega)
 ·intro h0 j h1 h2 h3
  have:=par_lt h1
  omega
theorem HeapOk.turn (ho:Ord lt) (h:HeapOk lt n g) (i:Nat) (x:Mk):Hole lt n (fun k=>if k=i then x else g k) i:=by
 constructor
 ·intro j h1 h2 h3 h4
  simp only [h3,h4,if_false]
  exact h j h1 h2
 ·intro h0 j h1 h2 h3
  have hj:=par_lt h1
  have hi:=par_lt h0
  simp only [show j≠i by omega,show par i≠i by omega,if_false]
  have e:=h j h1 h2
  rw [h3] at e
  by_cases hin:i<n
  ·exact ho.nt _ _ _ e (h i h0 hin)
  ·omega
theorem HeapOk.less {m:Nat} (h:HeapOk lt n g) (hm:m≤n):HeapOk lt m g:=fun j h1 h2=>h j h1 (by omega)
end
structure Holds (ky:Mk→List Int) (n:Nat) (g:Nat→Mk) (t:List Int→Option Mk):Prop where
 mem : ∀ i,i<n→t (ky (g i))=some (g i)
 sur : ∀ k x,t k=some x→ky x=k ∧ ∃ i,i<n∧g i=x
 inj : ∀ i j,i<n→j<n→ky (g i)=ky (g j)→i=j
theorem swp_at {α:Type} {g:Nat→α} {i j:Nat} (k:Nat) : ∃ k',swp g i j k=g k'∧(k'=k∨k'=i∨k'=j):=by
 unfold swp
 by_cases h1:k=j
 ·exact ⟨i,by rw [if_pos h1],.inr (.inl rfl)⟩
 ·by_cases h2:k=i
  ·exact ⟨j,by rw [if_neg h1,if_pos h2],.inr (.inr rfl)⟩
  ·exact ⟨k,by rw [if_neg h1,if_neg h2],.inl rfl⟩
theorem swp_swp {α:Type} {g:Nat→α} {i j:Nat}:swp (swp g i j) i j=g:=by
 funext k
 unfold swp
 by_cases h1:k=j <;> by_cases h2:k=i <;> by_cases h3:i=j <;> simp_all
theorem swp_same {α:Type} {g:Nat→α} {i:Nat}:swp g i i=g:=by
 funext k; unfold swp; by_cases h:k=i <;> simp_all
def tr (i j k:Nat):Nat:=if k=j then i else if k=i then j else k
theorem swp_tr {α:Type} {g:Nat→α} {i j k:Nat}:swp g i j k=g (tr i j k):=by
 unfold swp tr; by_cases h1:k=j <;> by_cases h2:k=i <;> simp_all
theorem tr_tr {i j k:Nat}:tr i j (tr i j k)=k:=by
 unfold tr; by_cases h1:k=j <;> by_cases h2:k=i <;> by_cases h3:i=j <;> simp_all
theorem tr_lt {i j k n:Nat} (hi:i<n) (hj:j<n) (hk:k<n):tr i j k<n:=by
 unfold tr; split
 ·exact hi
 ·split <;> assumption
theorem Holds.swp {ky:Mk→List Int} {n:Nat} {g:Nat→Mk} {t:List Int→Option Mk} (h:Holds ky n g t) {i j:Nat} (hi:i<n) (hj:j<n):Holds ky n (swp g i j) t where
 mem k hk:=by rw [swp_tr]; exact h.mem _ (tr_lt hi hj hk)
 sur k x hx:=by
  obtain ⟨h1,a,ha,hx⟩:=h.sur k x hx
  exact ⟨h1,tr i j a,tr_lt hi hj ha,by rw [swp_tr,tr_tr,hx]⟩
 inj a b ha hb he:=by
  rw [swp_tr,swp_tr] at he
  have:=h.inj _ _ (tr_lt hi hj ha) (tr_lt hi hj hb) he
  have:=congrArg (tr i j) this
  rwa [tr_tr,tr_tr] at this
end Gh

namespace Go.Ab
open Go Gh
abbrev i64 (n:Int):AV:=.int .i64 n
abbrev u64 (n:Int):AV:=.int .u64 n
def tg (c k:Nat):Nat:=64*(c+1)+k
theorem tg_inj {c k k':Nat}:tg c k=tg c k'↔k=k':=by unfold tg; omega
theorem tg_ne0 {c k:Nat}:tg c k≠0:=by unfold tg; omega
theorem tg_ne0' {c k:Nat} : ¬ (0=tg c k):=by unfold tg; omega
structure Fra (S:Nm→Prop) (H H':AH):Prop where
 k:H.k≤H'.k
 at_ : ∀ n,old H n → ¬ S n→H'.f n=H.f n
theorem Fra.refl (S:Nm→Prop) (H:AH):Fra S H H:=⟨Int.le_refl _,fun _ _ _=>rfl⟩
theorem Fra.trans {S:Nm→Prop} {A B C:AH} (h:Fra S A B) (h':Fra S B C):Fra S A C :=
 ⟨Int.le_trans h.k h'.k,fun n hn hs=>by rw [h'.at_ n (hn.mono h.k) hs,h.at_ n hn hs]⟩
theorem Fra.mono {S S':Nm→Prop} {A B:AH} (h:Fra S A B) (hs : ∀ n,S n→S' n):Fra S' A B:=⟨h.k,fun n hn hns=>h.at_ n hn fun hh=>hns (hs n hh)⟩
theorem Same.fra {S:Nm→Prop} {A B:AH} (h:Same A B):Fra S A B:=⟨h.k,fun n hn _=>h.at_ n hn⟩
theorem Fra.set {S:Nm→Prop} {A B:AH} (h:Fra S A B) {n:Nm} {o:AO} (hn:S n ∨ ¬ old A n):Fra S A (B.set n o) :=
 ⟨h.k,fun m hm hs=>by
  have:m≠n:=by
   intro e; subst e
   rcases hn with hn | hn
   ·exact hs hn
   ·exact hn hm
  simp [AH.set,this]; exact h.at_ m hm hs⟩
theorem Same.set {A B:AH} (h:Same A B) {n:Nm} {o:AO} (hn : ¬ old A n):Same A (B.set n o) :=
 ⟨h.k,fun m hm=>by
  have:m≠n:=by intro e; subst e; exact hn hm
  simp [AH.set,this]; exact h.at_ m hm⟩
abbrev boxC (b:Box):List AV:=[i64 b.id,i64 b.fn,i64 b.host,i64 b.mem,i64 b.st,.bool b.bound,.bool b.pinned,i64 b.since]
abbrev accC (a:Acc):List AV:=[.bool a.there,i64 a.limit]
abbrev qfC (q:QF):List AV:=[.bool q.there,i64 q.account,i64 q.reserved,i64 q.busy]
abbrev machC (m:Mach):List AV:=[.bool m.there,.bool m.draining,i64 m.size,i64 m.used]
abbrev bktC (b:Bkt):List AV:=[i64 b.size,i64 b.refill,i64 b.tokens]
abbrev cmdC (k:Cmd):List AV:=[.bool k.boot,i64 k.box,i64 k.fn,i64 k.host]
abbrev ansC (a:Ans):List AV:=[i64 a.kind,i64 a.box,i64 a.why,i64 a.err]
abbrev evC (e:Ev):List AV:=[i64 e.kind,i64 e.n,i64 e.limit,i64 e.size,i64 e.refill,i64 e.account,i64 e.mem,i64 e.cost,i64 e.reserved,i64 e.keep]
abbrev winC (w:Win):List AV:=[i64 w.how,i64 w.pre,i64 w.stop]
abbrev tmC (m:Mk):List AV:=[i64 m.2.1,i64 m.2.2,i64 m.1,i64 m.2.1,i64 m.2.2]
abbrev wmC (m:Mk):List AV:=[i64 m.2.2,u64 m.1,u64 m.2.1,i64 m.2.2]
def tmK (m:Mk):List Int:=[m.2.1,m.2.2]
def wmK (m:Mk):List Int:=[m.2.2]
def tmLt (a b:Mk):Bool:=Gh.CS.tLt a b
def wmLt (a b:Mk):Bool:=Gh.CS.wLt ((a.1,a.2.1),a.2.2) ((b.1,b.2.1),b.2.2)
def pd (d:Int):Int:=if 0<d then d else 1
def wmLu (a b:Mk):Bool:=Gh.CS.wLt ((a.1,pd a.2.1),a.2.2) ((b.1,pd b.2.1),b.2.2)
def histG (h:Histo):Nat→AV:=fun k=>if k<240 then i64 (h.bins k) else if k=240 then i64 h.inn else if k=241 then i64 h.over else .any
def ringG (r:Ring):Nat→AV:=fun k=>if k<8 then i64 (r.list k) else if k=8 then i64 r.n else .any
def ledG (acc:Nat→Acc) (qf:Nat→QF):Nat→AV:=fun k=>if k<32 then rowOf 2 accC acc k else rowOf 4 qfC qf (k-32)
section
variable (c : Nat)
abbrev nC:Nm:=⟨tg c 1,0,0⟩
abbrev nQ:Nm:=⟨tg c 2,0,0⟩
abbrev nTok:Nm:=⟨tg c 3,0,0⟩
abbrev nBkt (a:Int):Nm:=⟨tg c 4,a,0⟩
abbrev nFns:Nm:=⟨tg c 5,0,0⟩
abbrev nFn (f:Int):Nm:=⟨tg c 6,f,0⟩
abbrev nHis (f:Int):Nm:=⟨tg c 7,f,0⟩
abbrev nRing (f:Int):Nm:=⟨tg c 8,f,0⟩
abbrev nHosts:Nm:=⟨tg c 9,0,0⟩
abbrev nCaches:Nm:=⟨tg c 10,0,0⟩
abbrev nCache (h g:Int):Nm:=⟨tg c 11,h,g⟩
abbrev nCHeap (h g:Int):Nm:=⟨tg c 12,h,g⟩
abbrev nCItems (h v:Int):Nm:=⟨tg c 13,h,v⟩
abbrev nCAt (h g:Int):Nm:=⟨tg c 14,h,g⟩
abbrev nBoxes:Nm:=⟨tg c 15,0,0⟩
abbrev nBox (id:Int):Nm:=⟨tg c 16,id,0⟩
abbrev nAhead:Nm:=⟨tg c 17,0,0⟩
abbrev nTim:Nm:=⟨tg c 18,0,0⟩
abbrev nTHeap:Nm:=⟨tg c 19,0,0⟩
abbrev nTItems (v:Int):Nm:=⟨tg c 20,0,v⟩
abbrev nTAt:Nm:=⟨tg c 21,0,0⟩
end
def ptrMap {α:Type} (nm:Int→Nm) (m:Int→Option α):List Int→Option AV
 | [i]=>(m i).map fun _=>.ptr (nm i) 0
 | _=>none
def valMap {α:Type} (v:α→AV) (m:Int→Option α):List Int→Option AV
 | [i]=>(m i).map v
 | _=>none
def findB (l:List Box) (id:Int):Option Box:=l.find? fun b=>b.id==id
structure HeapP where
 nh:Nm
 na:Nm
 ni:Int→Nm
 r:Nat
 e:Nat
 less:AV
 ky:Mk→List Int
 cells:Mk→List AV
 lt:Mk→Mk→Bool
structure HeapRaw (p:HeapP) (v:Int) (n:Nat) (g:Nat→Mk) (H:AH):Prop where
 row : ∃ sl,H.f p.nh=some (.row 3 (cs [p.less,sl,.map p.na])) ∧
  ((sl=.nils∧n=0) ∨ ∃ u c,u<v∧sl=.slice (p.ni u) p.e 0 n∧n*p.e≤c∧H.f (p.ni u)=some (.row c (rowOf p.e p.cells g)))
 fresh : ∀ j,v≤j→H.f (p.ni j)=none
 at_ : ∃ m,H.f p.na=some (.mp p.r m)∧(∀ i,i<n→m (p.ky (g i))=some (i64 i)) ∧ ∀ k x,m k=some x → ∃ i,i<n∧p.ky (g i)=k∧x=i64 i
 inj : ∀ i j,i<n→j<n→p.ky (g i)=p.ky (g j)→i=j
 le:n<2 ^ 31
def HeapAt (p:HeapP) (v:Int) (t:List Int→Option Mk) (H:AH):Prop :=
 ∃ n g,HeapRaw p v n g H∧HeapOk p.lt n g∧Holds p.ky n g t
def HeapP.own (p:HeapP) (n:Nm):Prop:=n=p.nh∨n=p.na ∨ ∃ j,n=p.ni j
def timP (c:Nat) (less:AV):HeapP:=⟨nTHeap c,nTAt c,nTItems c,2,5,less,tmK,tmC,tmLt⟩
def cacP (c:Nat) (h g:Int) (less:AV):HeapP:=⟨nCHeap c h g,nCAt c h g,nCItems c h,1,4,less,wmK,wmC,wmLu⟩
def timesMap (ends boots:Int→Option Int):List Int→Option Mk
 | [k,i]=>if k=0 then (ends i).map fun t=>(t,0,i) else if k=1 then (boots i).map fun t=>(t,1,i) else none
 | _=>none
def cacheMap (w:Int→Option (Int × Int)):List Int→Option Mk
 | [i]=>(w i).map fun x=>(x.1,x.2,i)
 | _=>none
section
variable (F : Nums) (c : Nat)
def QAt (acc:Nat→Acc) (qf:Nat→QF) (H:AH):Prop:=H.f (nQ c)=some (.row 288 (ledG acc qf))
structure TokAt (tok:Int→Option Bkt) (H:AH):Prop where
 map:H.f (nTok c)=some (.mp 1 (ptrMap (nBkt c) tok))
 row : ∀ a b,tok a=some b→H.f (nBkt c a)=some (.row 3 (cs (bktC b)))
 fresh : ∀ a,tok a=none→H.f (nBkt c a)=none
abbrev fnC (f:Int) (x:Fnc):List AV:=[i64 x.account,i64 x.mem,i64 x.cost,i64 x.keep,i64 x.often,i64 x.last,i64 x.til,.ptr (nHis c f) 0,.ptr (nRing c f) 0]
structure FnsAt (fns:Int→Option Fnc) (H:AH):Prop where
 map:H.f (nFns c)=some (.mp 1 (ptrMap (nFn c) fns))
 row : ∀ f x,fns f=some x→H.f (nFn c f)=some (.row 9 (cs (fnC c f x)))∧H.f (nHis c f)=some (.row 242 (histG x.h))∧H.f (nRing c f)=some (.row 9 (ringG x.r))
 fresh : ∀ f,fns f=none→H.f (nFn c f)=none∧H.f (nHis c f)=none∧H.f (nRing c f)=none
def HostsAt (hosts:Nat→Mach) (H:AH):Prop:=H.f (nHosts c)=some (.row 128 (rowOf 4 machC hosts))
structure CachesAt (worth:Int→Int→Option (Int × Int)) (clock:Int→Int) (H:AH):Prop where
 ex : ∃ (m:List Int→Option AV) (gen:Int→Option Int) (gn vn:Int→Int),H.f (nCaches c)=some (.mp 1 m) ∧
  (∀ h,match gen h with
   | some g=>g<gn h∧m [h]=some (.ptr (nCache c h g) 0)∧H.f (nCache c h g)=some (.row 2 (cs [.ptr (nCHeap c h g) 0,u64 (clock h)]))∧HeapAt (cacP c h g (.fn F.warm_less [])) (vn h) (cacheMap (worth h)) H
   | none=>(m [h]=none∨m [h]=some .nilp)∧(∀ id,worth h id=none)∧clock h=0) ∧
  (∀ h j,gn h≤j→H.f (nCache c h j)=none∧H.f (nCHeap c h j)=none∧H.f (nCAt c h j)=none) ∧
  (∀ h j,vn h≤j→H.f (nCItems c h j)=none)
structure BoxesAt (boxes:List Box) (next:Int) (H:AH):Prop where
 map:H.f (nBoxes c)=some (.mp 1 (ptrMap (nBox c) (findB boxes)))
 row : ∀ b,b∈boxes→H.f (nBox c b.id)=some (.row 8 (cs (boxC b)))
 fresh : ∀ id,next≤id→H.f (nBox c id)=none
def AheadAt (ahead:Int→Option Int) (H:AH):Prop:=H.f (nAhead c)=some (.mp 1 (valMap i64 ahead))
structure TimersAt (ends boots:Int→Option Int) (H:AH):Prop where
 row:H.f (nTim c)=some (.row 1 (cs [.ptr (nTHeap c) 0]))
 heap : ∃ v,HeapAt (timP c (.fn F.timer_less [])) v (timesMap ends boots) H
def OutAt (o:AV) (out:List Cmd) (H:AH):Prop :=
 (out=[]∧o=.nils)∨(out≠[] ∧ ∃ n g,n.t=0∧n.i<H.k∧o=.slice n 4 0 out.length∧H.f n=some (.row (out.length*4) g) ∧ ∀ i,i<out.length*4→g i=rowOf 4 cmdC (fun i=>out.getD i ⟨false,0,0,0⟩) i)
abbrev coreC (s:CS) (o:AV):List AV:=[i64 s.now,i64 s.next,.ptr (nQ c) 0,.map (nTok c),.map (nFns c),.ptr (nHosts c) 0,.map (nCaches c),.map (nBoxes c),.map (nAhead c),.ptr (nTim c) 0,o,
 i64 (s.ans 0),i64 (s.ans 1),i64 (s.ans 2),i64 (s.ans 3),i64 (s.ans 4)]
structure CoreAt (o:AV) (s:CS) (H:AH):Prop where
 core:H.f (nC c)=some (.row 16 (cs (coreC c s o)))
 q:QAt c s.acc s.qf H
 tok:TokAt c s.tok H
 fns:FnsAt c s.fns H
 hosts:HostsAt c s.hosts H
 caches:CachesAt F c s.worth s.clock H
 boxes:BoxesAt c s.boxes s.next H
 ahead:AheadAt c s.ahead H
 timers:TimersAt F c s.ends s.boots H
 out:OutAt o s.out H
def inC (n:Nm):Prop:=n.t / 64=c+1
end
def isOut (o:AV) (n:Nm):Prop := ∃ len,o=.slice n 4 0 len
section
variable {F : Nums} {c : Nat} {H H' : AH}
theorem TokAt.congr {tok} (h:TokAt c tok H) (hf : ∀ n:Nm,n.t=tg c 3∨n.t=tg c 4→H'.f n=H.f n):TokAt c tok H' :=
 ⟨by rw [hf _ (.inl rfl)]; exact h.map,fun a b hb=>by rw [hf _ (.inr rfl)]; exact h.row a b hb,fun a ha=>by rw [hf _ (.inr rfl)]; exact h.fresh a ha⟩
theorem FnsAt.congr {fns} (h:FnsAt c fns H) (hf : ∀ n:Nm,n.t=tg c 5∨n.t=tg c 6∨n.t=tg c 7∨n.t=tg c 8→H'.f n=H.f n):FnsAt c fns H' :=
 ⟨by rw [hf _ (.inl rfl)]; exact h.map,fun a b hb=>by rw [hf _ (.inr (.inl rfl)),hf _ (.inr (.inr (.inl rfl))),hf _ (.inr (.inr (.inr rfl)))]; exact h.row a b hb,
  fun a ha=>by rw [hf _ (.inr (.inl rfl)),hf _ (.inr (.inr (.inl rfl))),hf _ (.inr (.inr (.inr rfl)))]; exact h.fresh a ha⟩
theorem HeapRaw.congr {p:HeapP} {v n g} (h:HeapRaw p v n g H) (hf : ∀ m:Nm,p.own m→H'.f m=H.f m):HeapRaw p v n g H' where
 row:=by
  obtain ⟨sl,h1,h2⟩:=h.row
  refine ⟨sl,by rw [hf _ (.inl rfl)]; exact h1,h2.imp id ?_⟩
  rintro ⟨u,c,h3,h4,h5,h6⟩
  exact ⟨u,c,h3,h4,h5,by rw [hf _ (.inr (.inr ⟨u,rfl⟩))]; exact h6⟩
 fresh j hj:=by rw [hf _ (.inr (.inr ⟨j,rfl⟩))]; exact h.fresh j hj
 at_:=by
  obtain ⟨m,h1,h2⟩:=h.at_
  exact ⟨m,by rw [hf _ (.inr (.inl rfl))]; exact h1,h2⟩
 inj:=h.inj
 le:=h.le
theorem HeapAt.congr {p:HeapP} {v t} (h:HeapAt p v t H) (hf : ∀ m:Nm,p.own m→H'.f m=H.f m):HeapAt p v t H':=by
 obtain ⟨n,g,h1,h2⟩:=h
 exact ⟨n,g,h1.congr hf,h2⟩
theorem CachesAt.congr {worth clock} (h:CachesAt F c worth clock H) (hf : ∀ n:Nm,n.t=tg c 10∨n.t=tg c 11∨n.t=tg c 12∨n.t=tg c 13∨n.t=tg c 14→H'.f n=H.f n):CachesAt F c worth clock H':=by
 obtain ⟨m,gen,gn,vn,h1,h2,h3,h4⟩:=h.ex
 refine ⟨m,gen,gn,vn,by rw [hf _ (.inl rfl)]; exact h1,fun hh=>?_,fun hh j hj=>?_,fun hh j hj=>?_⟩
 ·have:=h2 hh
  cases hg:gen hh with
  | none=>simp only [hg] at this ⊢; exact this
  | some g =>
   simp only [hg] at this ⊢
   refine ⟨this.1,this.2.1,by rw [hf _ (.inr (.inl rfl))]; exact this.2.2.1,this.2.2.2.congr ?_⟩
   rintro m (rfl | rfl | ⟨j,rfl⟩)
   ·exact hf _ (.inr (.inr (.inl rfl)))
   ·exact hf _ (.inr (.inr (.inr (.inr rfl))))
   ·exact hf _ (.inr (.inr (.inr (.inl rfl))))
 ·rw [hf _ (.inr (.inl rfl)),hf _ (.inr (.inr (.inl rfl))),hf _ (.inr (.inr (.inr (.inr rfl))))]; exact h3 hh j hj
 ·rw [hf _ (.inr (.inr (.inr (.inl rfl))))]; exact h4 hh j hj
theorem BoxesAt.congr {boxes next} (h:BoxesAt c boxes next H) (hf : ∀ n:Nm,n.t=tg c 15∨n.t=tg c 16→H'.f n=H.f n):BoxesAt c boxes next H' :=
 ⟨by rw [hf _ (.inl rfl)]; exact h.map,fun b hb=>by rw [hf _ (.inr rfl)]; exact h.row b hb,fun a ha=>by rw [hf _ (.inr rfl)]; exact h.fresh a ha⟩
theorem TimersAt.congr {ends boots} (h:TimersAt F c ends boots H) (hf : ∀ n:Nm,n.t=tg c 18∨n.t=tg c 19∨n.t=tg c 20∨n.t=tg c 21→H'.f n=H.f n):TimersAt F c ends boots H':=by
 obtain ⟨v,hv⟩:=h.heap
 refine ⟨by rw [hf _ (.inl rfl)]; exact h.row,v,hv.congr ?_⟩
 rintro m (rfl | rfl | ⟨j,rfl⟩)
 ·exact hf _ (.inr (.inl rfl))
 ·exact hf _ (.inr (.inr (.inr rfl)))
 ·exact hf _ (.inr (.inr (.inl rfl)))
theorem OutAt.congr {o out} (h:OutAt o out H) (hk:H.k≤H'.k) (hf : ∀ n:Nm,isOut o n→H'.f n=H.f n):OutAt o out H':=by
 rcases h with h | ⟨h0,n,g,h1,h2,h3,h4,h5⟩
 ·exact .inl h
 ·exact .inr ⟨h0,n,g,h1,by omega,h3,by rw [hf n ⟨_,h3⟩]; exact h4,h5⟩
end
end Go.Ab

namespace Go.Ab
open Go Gh
attribute [go_sem] Nat.reduceEqDiff Nat.reduceLT Nat.reduceLeDiff Nat.reduceAdd Nat.reduceMul reduceIte reduceCtorEq
theorem cs_def {l:List AV} {i:Nat}:cs l i=l.getD i .any:=rfl
attribute [go_sem] cs_def List.getD_cons_succ List.getD_cons_zero
theorem upd_cs {l:List AV} {i:Nat} {v:AV} (h:i<l.length):upd (cs l) i v=cs (l.set i v):=by
 funext j
 unfold upd cs
 by_cases hj:j=i
 ·subst hj
  simp [List.getD_eq_getElem?_getD,h]
 ·have:(j==i)=false:=by simpa using hj
  rw [this]
  simp [List.getD_eq_getElem?_getD,List.getElem?_set,Ne.symm hj]
theorem updN_cs {l a:List AV} {off:Nat} (h:off+l.length≤a.length):updN (cs a) off l=cs (a.take off++l++a.drop (off+l.length)):=by
 funext k
 rw [updN_at]
 unfold cs
 simp only [List.getD_eq_getElem?_getD]
 have hm:min off a.length=off:=by omega
 by_cases hk:off≤k∧k<off+l.length
 ·rw [if_pos hk,List.append_assoc,List.getElem?_append_right (by simp; omega),List.getElem?_append_left (by simp; omega)]
  simp [hm]
 ·rw [if_neg hk]
  by_cases h1:k<off
  ·rw [List.append_assoc,List.getElem?_append_left (by simp; omega),List.getElem?_take_of_lt h1]
  ·rw [List.getElem?_append_right (by simp; omega),List.getElem?_drop]
   congr 2
   simp only [List.length_append,List.length_take,hm]
   omega
theorem Same.of_f {H H':AH} (h:H'.f=H.f) (hk:H.k≤H'.k):Same H H':=⟨hk,fun n _=>by rw [h]⟩
theorem Fra.of_set {S:Nm→Prop} {H:AH} {n:Nm} {o:AO} {k:Int} {s:List Nm} (hn:S n) (hk:H.k≤k):Fra S H ⟨(AH.set H n o).f,k,s⟩ :=
 ⟨hk,fun m _ hs=>by
  have:m≠n:=by intro e; subst e; exact hs hn
  simp [AH.set,this]⟩
theorem Fra.of_f {S:Nm→Prop} {H H':AH} (h:H'.f=H.f) (hk:H.k≤H'.k):Fra S H H':=⟨hk,fun n _ _=>by rw [h]⟩
theorem Same.mk1 {H:AH} {s:List Nm}:Same H ⟨H.f,H.k,s⟩:=⟨Int.le_refl _,fun _ _=>rfl⟩
theorem Fra.mk1 {S:Nm→Prop} {H:AH} {s:List Nm}:Fra S H ⟨H.f,H.k,s⟩:=⟨Int.le_refl _,fun _ _ _=>rfl⟩
theorem bmp_kle {c:Nat} {H:AH}:H.k≤(bmp c H).k:=by
 unfold bmp; split
 ·exact Int.le_refl _
 ·show H.k≤H.k+1; omega
theorem Fra.bmp {S:Nm→Prop} {A B:AH} {c:Nat} (h:Fra S A B):Fra S A (Ab.bmp c B):=⟨Int.le_trans h.k bmp_kle,fun n hn hs=>by rw [bmp_f]; exact h.at_ n hn hs⟩
theorem Same.bmp {A B:AH} {c:Nat} (h:Same A B):Same A (Ab.bmp c B):=⟨Int.le_trans h.k bmp_kle,fun n hn=>by rw [bmp_f]; exact h.at_ n hn⟩
theorem Same.mk' {A B:AH} {s:List Nm} (h:Same A B):Same A ⟨B.f,B.k,s⟩:=⟨h.k,h.at_⟩
theorem Fra.mk' {S:Nm→Prop} {A B:AH} {s:List Nm} (h:Fra S A B):Fra S A ⟨B.f,B.k,s⟩:=⟨h.k,h.at_⟩
theorem Same.of_mk {A B:AH} {s:List Nm} (h:Same ⟨A.f,A.k,s⟩ B):Same A B:=⟨h.k,h.at_⟩
theorem Fra.of_mk {S:Nm→Prop} {A B:AH} {s:List Nm} (h:Fra S ⟨A.f,A.k,s⟩ B):Fra S A B:=⟨h.k,h.at_⟩
theorem Same.tmp {A B:AH} {s:List Nm} {q:Int} {o:AO} (h:Same A B):Same A (AH.set ⟨B.f,B.k,s⟩ ⟨0,B.k,q⟩ o) :=
 (h.mk' (s:=s)).set fun ho=>by have h0:B.k<A.k:=ho rfl; have:=h.k; omega
theorem Fra.tmp {S:Nm→Prop} {A B:AH} {s:List Nm} {q:Int} {o:AO} (h:Fra S A B):Fra S A (AH.set ⟨B.f,B.k,s⟩ ⟨0,B.k,q⟩ o) :=
 (h.mk' (s:=s)).set (.inr fun ho=>by have h0:B.k<A.k:=ho rfl; have:=h.k; omega)
abbrev At (n:Nm):Nm→Prop:=fun m=>m=n
theorem Fra.s1 {A B:AH} {n:Nm} {o:AO} (h:Fra (At n) A B):Fra (At n) A (B.set n o):=Fra.set h (.inl rfl)
theorem mn2 {a b:Int}:(if b<a then b else a)=min a b:=by omega
theorem mx2 {a b:Int}:(if b>a then b else a)=max a b:=by omega
theorem wrapS {i:Nat} (h:i<4294967296):IntKind.i64.wrap ((i:Int)+1)=((i+1:Nat):Int):=by
 unfold IntKind.wrap
 simp only [show IntKind.i64.bits=64 from rfl,show IntKind.i64.signed=true from rfl,Bool.true_and,ge_iff_le,decide_eq_true_eq]
 simp only [Nat.reduceSub,Int.reducePow]
 split <;> omega
attribute [go_sem] mn2 mx2
theorem getD_rep {c:List AV} (hc:0<c.length) : ∀ (m k:Nat),k<m*c.length→(List.replicate m c).flatten.getD k .any=c.getD (k % c.length) .any
 | 0,k,h=>by simp at h
 | m+1,k,h=>by
  rw [List.replicate_succ,List.flatten_cons]
  simp only [List.getD_eq_getElem?_getD]
  by_cases hk:k<c.length
  ·rw [List.getElem?_append_left hk,Nat.mod_eq_of_lt hk]
  ·have e:(m+1)*c.length=m*c.length+c.length:=by rw [Nat.add_mul,Nat.one_mul]
   have h1:k-c.length<m*c.length:=by omega
   have ih:=getD_rep hc m (k-c.length) h1
   simp only [List.getD_eq_getElem?_getD] at ih
   rw [List.getElem?_append_right (by omega),ih]
   conv=>rhs; rw [Nat.mod_eq_sub_mod (show k ≥ c.length by omega)]
theorem all_rep {c:List AV} (hc:c.all AV.scalar=true) (m:Nat):(List.replicate m c).flatten.all AV.scalar=true:=by
 induction m with
 | zero=>rfl
 | succ m ih=>rw [List.replicate_succ,List.flatten_cons,List.all_append,hc,ih]; rfl
theorem len_rep {c:List AV} (m:Nat):(List.replicate m c).flatten.length=m*c.length:=by simp
theorem getD_app {a b:List AV} {k:Nat}:(a++b).getD k .any=if k<a.length then a.getD k .any else b.getD (k-a.length) .any:=by
 simp only [List.getD_eq_getElem?_getD]
 split
 ·rename_i h; rw [List.getElem?_append_left h]
 ·rename_i h; rw [List.getElem?_append_right (by omega)]
theorem wrap64 {n:Int} (h1 : -9223372036854775808≤n) (h2:n≤9223372036854775807):IntKind.i64.wrap n=n:=by
 unfold IntKind.wrap
 simp only [show IntKind.i64.bits=64 from rfl,show IntKind.i64.signed=true from rfl,Bool.true_and,ge_iff_le,decide_eq_true_eq]
 simp only [Nat.reduceSub,Int.reducePow]
 split <;> omega
theorem wrapu64 {n:Int} (h1:0≤n) (h2:n<18446744073709551616):IntKind.u64.wrap n=n:=by
 unfold IntKind.wrap
 simp only [show IntKind.u64.bits=64 from rfl,show IntKind.u64.signed=false from rfl,Bool.false_and]
 simp only [Bool.false_eq_true,if_false]
 omega
theorem CA_s {P:Program} {g:FuncId} {as:List AV} {H:AH} {K K':AV→AH→Prop} {u:T (as,H,K')} (s:List Nm) (h:ACalls P g as H K) (hk : ∀ v H',K v H'→H.k≤H'.k→Clean H'→K' v ⟨H'.f,H'.k,s⟩):CA P g as H K' u :=
 ⟨h.1,fun ρ w vs hw hcl hv=>(h.2 ρ w vs hw hcl hv).mono fun _ _ ⟨v,v',ρ',H',e1,e2,e3,e4,e5,e6⟩=>⟨v,v',ρ',{ H' with sup:=s },e1,hk _ _ e2 e6.k e4,e3.sup,e4,e5,e6.sup⟩⟩
theorem set_set {H:AH} {n:Nm} {a b:AO}:(H.set n a).set n b=H.set n b:=by
 unfold AH.set
 congr 1
 funext m
 by_cases h:m=n <;> simp [h]
theorem fr_lkp {l:List (Nat × AV)} {n:Nat}:fr l n=lkp l n:=rfl
theorem gd_none {t:Fr}:gd none t=some true:=rfl
theorem old_tmp {H:AH} {q:Int} {o:AO} {c:Nat}:old (bmp (c+1) (AH.set H ⟨0,H.k,q⟩ o)) ⟨0,H.k,q⟩:=fun _=>by show H.k<H.k+1; omega
theorem tmp_ne {k:Int} {a b:Int} (h:a≠b):(⟨0,k,a⟩:Nm)≠⟨0,k,b⟩:=by intro e; injection e with _ _ e; exact h e
def nmL (o:Option Nm) (k:Int) (q:Nat):Nm:=match o with
 | some n=>n
 | none=>⟨0,k,q⟩
def okL (o:Option Nm) (f:Nm→Option AO):Prop:=match o with
 | some n=>n.t≠0∧f n=none
 | none=>True
theorem nm_def {H:AH} {q:Nat}:H.nm q=nmL H.sup[q]? H.k q:=rfl
theorem nmOk_def {H:AH} {q:Nat}:H.nmOk q=okL H.sup[q]? H.f:=rfl
theorem nmL_some {n:Nm} {k:Int} {q:Nat}:nmL (some n) k q=n:=rfl
theorem nmL_none {k:Int} {q:Nat}:nmL none k q=⟨0,k,q⟩:=rfl
theorem okL_some {n:Nm} {f:Nm→Option AO}:okL (some n) f=(n.t≠0∧f n=none):=rfl
theorem okL_none {f:Nm→Option AO}:okL none f=True:=rfl
attribute [go_sem] List.take_succ_cons List.take_zero List.drop_succ_cons List.drop_zero List.all_cons List.all_nil Bool.and_self Bool.and_true
attribute [go_sem] List.getElem?_cons_zero List.getElem?_cons_succ List.range_zero List.map_append List.map_cons List.map_nil updN_cs
attribute [go_sem] set_set upd_cs List.length_cons List.length_nil List.set_cons_succ List.set_cons_zero
attribute [go_sem] nm_def nmOk_def nmL_some nmL_none okL_some okL_none List.getElem?_nil
end Go.Ab

namespace Gh
open CS
def topT:Int:=2 ^ 43
structure WHist (h:Histo):Prop where
 b : ∀ i,0≤h.bins i
 inn:h.inn=sumN h.bins 240
 over:0≤h.over
 all:h.inn+h.over<4096
structure WRing (r:Ring):Prop where
 n:0≤r.n∧r.n<16
 l : ∀ i,0≤r.list i∧r.list i≤maxTime
structure WFn (x:Fnc) (now:Int):Prop where
 acc:0≤x.account∧x.account<16
 mem:1≤x.mem∧x.mem≤4096
 cost:1≤x.cost∧x.cost≤1000
 keep:0≤x.keep∧x.keep≤1000
 often:0≤x.often∧x.often≤1000
 last : -1≤x.last∧x.last≤now
 til:0≤x.til∧x.til≤topT
 h:WHist x.h
 r:WRing x.r
structure WBox (b:Box) (next now:Int) (fns:Int→Option Fnc):Prop where
 id:1≤b.id∧b.id<next
 fn : ∃ x,fns b.fn=some x∧x.mem=b.mem
 host:0≤b.host∧b.host<32
 st:0≤b.st∧b.st≤2
 since:0≤b.since∧b.since≤now
def WfB (boxes:List Box) (next now:Int) (fns:Int→Option Fnc):Prop :=
 boxes.Pairwise (fun a b=>a.id<b.id) ∧ ∀ b∈boxes,WBox b next now fns
def WfE (ends:Int→Option Int) (boxes:List Box):Prop := ∀ id t,ends id=some t→(0≤t∧t≤topT) ∧ ∃ b∈boxes,b.id=id
def deads (boxes:List Box) (next:Int):Int:=next-1-boxes.length
def WfW (worth:Int→Int→Option (Int × Int)) (clock:Int→Int) (boxes:List Box) (next:Int):Prop :=
 (∀ h id w,worth h id=some w→(0≤w.1∧w.1≤w.2*(1000000*(deads boxes next+1))∧1≤w.2∧w.2≤4096) ∧ ∃ b∈boxes,b.id=id∧b.host=h) ∧
 (∀ h,0≤clock h∧clock h≤1000000*deads boxes next)∧0≤deads boxes next
def WfO (boots:Int→Option Int) (fns:Int→Option Fnc):Prop := ∀ f t,boots f=some t→(0≤t∧t≤topT) ∧ ∃ x,fns f=some x
def WfA (ahead:Int→Option Int):Prop := ∀ id t,ahead id=some t→0≤t∧t≤topT
def WfF (fns:Int→Option Fnc) (now:Int) (tok:Int→Option Bkt):Prop := ∀ f x,fns f=some x→(0≤f∧f<64)∧WFn x now ∧ ∃ t,tok x.account=some t
structure WfQ (acc:Nat→Acc) (qf:Nat→QF) (fns:Int→Option Fnc):Prop where
 la : ∀ i,0≤(acc i).limit∧(acc i).limit≤1000
 lq : ∀ i,(0≤(qf i).account∧(qf i).account<16)∧(0≤(qf i).reserved∧(qf i).reserved≤1000)∧(0≤(qf i).busy∧(qf i).busy≤1000)
 lf : ∀ i,i<64→((qf i).there=true ↔ ∃ x,fns i=some x)
 ls : ∀ (i:Nat) x,fns i=some x→x.account=(qf i).account
def WBkt (b:Bkt):Prop:=(0≤b.size∧b.size≤1000)∧(0≤b.refill∧b.refill≤1000)∧(0≤b.tokens∧b.tokens≤b.size)
def WfT (tok:Int→Option Bkt):Prop := ∀ a b,tok a=some b→WBkt b
def WMach (m:Mach):Prop:=(0≤m.used∧m.used≤m.size)∧m.size≤4096
def WfH (hosts:Nat→Mach):Prop := ∀ h,WMach (hosts h)
structure WF (s:CS):Prop where
 now:0≤s.now∧s.now≤maxTime
 b:WfB s.boxes s.next s.now s.fns
 e:WfE s.ends s.boxes
 w:WfW s.worth s.clock s.boxes s.next
 o:WfO s.boots s.fns
 a:WfA s.ahead
 f:WfF s.fns s.now s.tok
 q:WfQ s.acc s.qf s.fns
 t:WfT s.tok
 h:WfH s.hosts
theorem find_some {s:CS} {id:Int} {b:Box} (h:s.find id=some b):b∈s.boxes∧b.id=id:=by
 unfold CS.find at h
 exact ⟨List.mem_of_find?_eq_some h,by simpa using List.find?_some h⟩
theorem pairwise_find {l:List Box} (hp:l.Pairwise (fun a b=>a.id<b.id)) {b:Box} (hb:b∈l):l.find? (fun x=>x.id==b.id)=some b:=by
 induction l with
 | nil=>cases hb
 | cons x r ih =>
  rw [List.pairwise_cons] at hp
  rcases List.mem_cons.1 hb with h | h
  ·subst h; simp
  ·have hne:x.id≠b.id:=by have:=hp.1 b h; omega
   have:(x.id==b.id)=false:=by simpa using hne
   rw [List.find?_cons,this]
   exact ih hp.2 h
theorem WF.find {s:CS} (h:WF s) {b:Box} (hb:b∈s.boxes):s.find b.id=some b:=pairwise_find h.b.1 hb
theorem find_none {s:CS} {id:Int} (h:s.find id=none) : ∀ b∈s.boxes,b.id≠id:=by
 intro b hb he
 unfold CS.find at h
 rw [List.find?_eq_none] at h
 exact h b hb (by simpa using he)
theorem sumN_nonneg {f:Nat→Int} (h : ∀ i,0≤f i) : ∀ n,0≤sumN f n
 | 0=>Int.le_refl _
 | n+1=>by have:=sumN_nonneg h n; have:=h n; simp only [sumN]; omega
theorem part_small {n up down:Int} (h0:0≤n) (h1:0≤up) (h2:0<down) (h3:n*up≤maxI):part n up down=(n*up / down,n*up % down):=by
 unfold part
 have hnn:0≤n*up:=Int.mul_nonneg h0 h1
 have hle:n*up / down≤n*up:=Int.ediv_le_self _ hnn
 rw [if_neg (by omega),if_pos (by omega)]
theorem cutFrom_bd (h:Histo) (p:Int) : ∀ (k i:Nat) (sum:Int),i+k≤240→0≤cutFrom h p k i sum∧cutFrom h p k i sum≤239
 | 0,i,sum,_=>by simp [cutFrom]
 | k+1,i,sum,hk=>by
  simp only [cutFrom]
  split
  ·omega
  ·exact cutFrom_bd h p k (i+1) _ (by omega)
theorem cut_bd (h:Histo) (p:Int):0≤h.cut p∧h.cut p≤239:=by
 unfold Histo.cut
 split
 ·omega
 ·exact cutFrom_bd h p 240 0 0 (by omega)
theorem castSums_bd (l:List Int) : ∀ i,i≤8→0≤(castSums l i).2.1∧(castSums l i).2.1≤i*maxTime
 | 0,_=>by simp [castSums]
 | i+1,h=>by
  have:=castSums_bd l i (by omega)
  have hc:0≤clamp (l.getD i 0) 0 maxTime∧clamp (l.getD i 0) 0 maxTime≤maxTime:=by unfold clamp maxTime; omega
  simp only [castSums]
  unfold maxTime at *
  omega
theorem castNext_bd (l:List Int) (hl:l.length≤8):0≤castNext l∧castNext l≤maxTime:=by
 unfold castNext
 simp only
 split
 ·unfold maxTime; omega
 ·split
  ·rename_i h1
   have h1:l.length=1:=by omega
   have:=castSums_bd l 1 (by omega)
   rw [h1]
   simpa using this
  ·split
   ·unfold maxTime; omega
   ·unfold clamp maxTime; omega
theorem Ring.all_length {r:Ring} (h:WRing r):r.all.length≤8:=by
 unfold Ring.all Ring.len
 have:=h.n
 simp
 omega
theorem cutFrom_le (h:Histo) {p q:Int} (hp:p≤q) (hi:0≤h.inn) : ∀ (k i:Nat) (sum:Int),i+k≤240→cutFrom h p k i sum≤cutFrom h q k i sum
 | 0,i,sum,_=>by simp [cutFrom]
 | k+1,i,sum,hk=>by
  simp only [cutFrom]
  have hm:p*h.inn≤q*h.inn:=Int.mul_le_mul_of_nonneg_right hp hi
  by_cases h1:sum+h.bins i>0∧(sum+h.bins i)*100 ≥ q*h.inn
  ·rw [if_pos h1,if_pos ⟨h1.1,by omega⟩]; exact Int.le_refl _
  ·rw [if_neg h1]
   split
   ·have:=cutFrom_ge h q k (i+1) (sum+h.bins i) (by omega)
    omega
   ·exact cutFrom_le h hp hi k (i+1) _ (by omega)
where
 cutFrom_ge (h:Histo) (q:Int) : ∀ (k i:Nat) (sum:Int),i+k≤240→(i:Int)-1≤cutFrom h q k i sum
 | 0,i,sum,hk=>by simp [cutFrom]; omega
 | k+1,i,sum,hk=>by
  simp only [cutFrom]
  split
  ·omega
  ·have:=cutFrom_ge h q k (i+1) (sum+h.bins i) (by omega)
   omega
theorem cut_le (h:Histo) (hi:0≤h.inn):h.cut 5≤h.cut 99:=by
 unfold Histo.cut
 split
 ·exact Int.le_refl _
 ·exact cutFrom_le h (by decide) hi 240 0 0 (by omega)
theorem WHist.inn0 {h:Histo} (w:WHist h):0≤h.inn:=by rw [w.inn]; exact sumN_nonneg w.b 240
theorem winOf_bd {h:Histo} {r:Ring} (hh:WHist h) (hr:WRing r):0≤(winOf h r).pre∧(winOf h r).pre<(winOf h r).stop∧(winOf h r).stop≤2 ^ 41:=by
 unfold winOf
 split
 ·decide
 ·split
  ·have hc:=castNext_bd r.all (Ring.all_length hr)
   generalize castNext r.all=i at hc
   unfold maxTime at hc
   simp only [frac,fracUp]
   rw [part_small hc.1 (by decide) (by decide) (by unfold maxI; omega),part_small hc.1 (by decide) (by decide) (by unfold maxI; omega)]
   simp only
   unfold maxI
   split <;> omega
  ·split
   ·decide
   ·have h1:=cut_bd h 5
    have h2:=cut_bd h 99
    have h3:=cut_le h hh.inn0
    simp only [frac,fracUp]
    rw [part_small h1.1 (by decide) (by decide) (by unfold maxI; omega),part_small (by omega) (by decide) (by decide) (by unfold maxI; omega)]
    simp only
    unfold maxI
    split <;> omega
section
variable {s : CS}
theorem WfB.imp {boxes:List Box} {next next' now now':Int} {fns fns':Int→Option Fnc} (h:WfB boxes next now fns) (hn:next≤next') (hw:now≤now') (hf : ∀ f x,fns f=some x → ∃ y,fns' f=some y∧y.mem=x.mem):WfB boxes next' now' fns' :=
 ⟨h.1,fun b hb=>by
  have:=h.2 b hb
  obtain ⟨x,hx,hm⟩:=this.fn
  obtain ⟨y,hy,hm'⟩:=hf _ x hx
  exact ⟨⟨this.id.1,by have:=this.id.2; omega⟩,⟨y,hy,by omega⟩,this.host,this.st,this.since.1,by have:=this.since.2; omega⟩⟩
theorem WF.take (h:WF s) (b:Box):WF (s.take b) :=
 { h with
  e:=fun id t ht=>by
   simp only [CS.take,ups] at ht
   split at ht
   ·cases ht
   ·exact h.e id t ht
  w:=⟨fun k id w hw=>by
   simp only [CS.take,ups2] at hw
   split at hw
   ·cases hw
   ·exact h.w.1 k id w hw,h.w.2⟩ }
theorem WF.fnsI {f:Int} {g:Fnc→Fnc} (hg : ∀ x,s.fns f=some x→(g x).mem=x.mem) : ∀ k x,s.fns k=some x → ∃ y,(s.setFn f g).fns k=some y∧y.mem=x.mem:=by
 intro k x hx
 simp only [CS.setFn,ups]
 split
 ·rename_i he
  subst he
  exact ⟨g x,by rw [hx]; rfl,hg x hx⟩
 ·exact ⟨x,hx,rfl⟩
theorem WF.setFn (h:WF s) {f:Int} {g:Fnc→Fnc} (hg : ∀ x,s.fns f=some x→WFn (g x) s.now∧(g x).mem=x.mem∧(g x).account=x.account):WF (s.setFn f g) :=
 { h with
  b:=h.b.imp (Int.le_refl _) (Int.le_refl _) (WF.fnsI fun x hx=>(hg x hx).2.1)
  o:=fun k t ht=>by
   obtain ⟨h1,x,hx⟩:=h.o k t ht
   obtain ⟨y,hy,_⟩:=WF.fnsI (fun x hx=>(hg x hx).2.1) k x hx
   exact ⟨h1,y,hy⟩
  f:=fun k x hx=>by
   simp only [CS.setFn,ups] at hx
   split at hx
   ·rename_i he
    subst he
    cases hk:s.fns k with
    | none=>rw [hk] at hx; cases hx
    | some y =>
     rw [hk] at hx
     simp only [Option.map_some,Option.some.injEq] at hx
     subst hx
     have:=h.f k y hk
     obtain ⟨g1,g2,g3⟩:=hg y hk
     exact ⟨this.1,g1,by rw [g3]; exact this.2.2⟩
   ·exact h.f k x hx
  q:=⟨h.q.la,h.q.lq,fun i hi=>(h.q.lf i hi).trans (by
    simp only [CS.setFn,ups]
    split
    ·rename_i he
     rw [he]
     cases s.fns f <;> simp
    ·exact Iff.rfl),fun i x hx=>by
    simp only [CS.setFn,ups] at hx
    split at hx
    ·rename_i he
     cases hk:s.fns f with
     | none=>rw [hk] at hx; cases hx
     | some y =>
      rw [hk] at hx
      simp only [Option.map_some,Option.some.injEq] at hx
      subst hx
      rw [(hg y hk).2.2]
      exact h.q.ls i y (by rw [he]; exact hk)
    ·exact h.q.ls i x hx⟩ }
theorem upn_q {qf:Nat→QF} {i j:Nat} {q:QF}:upn qf i q j=if j=i then q else qf j:=rfl
theorem WF.setBusy (h:WF s) (i:Nat) (n:Int) (hn:0≤n∧n≤1000):WF { s with qf:=upn s.qf i { s.qf i with busy:=n } } :=
 { h with
  q:=⟨h.q.la,fun j=>by
    simp only [upn_q]
    split
    ·rename_i he; subst he
     have:=h.q.lq j
     exact ⟨this.1,this.2.1,hn⟩
    ·exact h.q.lq j,fun j hj=>by
    simp only [upn_q]
    split
    ·rename_i he; subst he; exact h.q.lf j hj
    ·exact h.q.lf j hj,fun j x hx=>by
    simp only [upn_q]
    split
    ·rename_i he; subst he; exact h.q.ls j x hx
    ·exact h.q.ls j x hx⟩ }
theorem WF.qEnd (h:WF s) (f:Int):WF (s.qEnd f):=by
 unfold CS.qEnd
 split
 ·rename_i hc
  simp only [Bool.and_eq_true,bne_iff_ne,ne_eq] at hc
  have:=(h.q.lq f.toNat).2.2
  exact h.setBusy _ _ (by omega)
 ·exact h
theorem WF.ended (h:WF s) (f:Int):WF (s.ended f):=by
 unfold CS.ended
 have h1:=h.qEnd f
 refine h1.setFn fun x hx=>?_
 have:=(h1.f f x hx).2.1
 have e:(s.qEnd f).now=s.now:=by unfold CS.qEnd; split <;> rfl
 exact ⟨{ this with last:=⟨by have:=h.now.1; simp only; omega,by rw [e]; exact Int.le_refl _⟩ },rfl,rfl⟩
theorem WF.setHosts (h:WF s) {hosts:Nat→Mach} (hh:WfH hosts):WF { s with hosts:=hosts }:={ h with h:=hh }
theorem WfH.upn {hosts:Nat→Mach} (h:WfH hosts) (i:Nat) {m:Mach} (hm:WMach m):WfH (upn hosts i m):=fun j=>by
 simp only [Gh.upn]; split
 ·exact hm
 ·exact h j
theorem WMach.zero:WMach {}:=by unfold WMach; decide
theorem WMach.swept {m:Mach} (h:WMach m):WMach (CS.swept m):=by
 unfold CS.swept; split
 ·exact .zero
 ·exact h
theorem WF.hGive (h:WF s) (k mem:Int):WF (s.hGive k mem):=by
 unfold CS.hGive
 split
 ·exact h
 ·rename_i hc
  refine h.setHosts (h.h.upn _ (WMach.swept ?_))
  have:=h.h k.toNat
  unfold WMach at *
  simp only
  omega
theorem WF.hTake (h:WF s) (k mem:Int):WF (s.hTake k mem):=by
 unfold CS.hTake
 split
 ·exact h
 ·rename_i hc
  refine h.setHosts (h.h.upn _ ?_)
  have:=h.h k.toNat
  unfold WMach at *
  have hf:s.free k≤(s.hosts k.toNat).size-(s.hosts k.toNat).used:=by
   unfold CS.free; split <;> omega
  simp only
  omega
theorem pairwise_filter_len {l:List Box} (hp:l.Pairwise (fun a b=>a.id<b.id)) {b:Box} (hb:b∈l):(l.filter fun x=>x.id != b.id).length+1=l.length:=by
 induction l with
 | nil=>cases hb
 | cons x r ih =>
  rw [List.pairwise_cons] at hp
  rcases List.mem_cons.1 hb with h | h
  ·subst h
   have:(r.filter fun x=>x.id != b.id)=r:=by
    rw [List.filter_eq_self]
    intro y hy
    have:=hp.1 y hy
    simp; omega
   simp [this]
  ·have hne:x.id≠b.id:=by have:=hp.1 b h; omega
   have:(x.id != b.id)=true:=by simpa using hne
   rw [List.filter_cons,this]
   simp only [if_true,List.length_cons]
   rw [ih hp.2 h]
theorem WF.remove (h:WF s) {b:Box} (hb:b∈s.boxes) (he:s.ends b.id=none) (hw:s.worth b.host b.id=none):WF { s with boxes:=s.boxes.filter (fun x=>x.id != b.id),ahead:=ups s.ahead b.id none }:=by
 have hlen:=pairwise_filter_len h.b.1 hb
 have hdd:deads (s.boxes.filter fun x=>x.id != b.id) s.next=deads s.boxes s.next+1:=by unfold deads; omega
 refine { h with b:=⟨h.b.1.sublist List.filter_sublist,fun x hx=>h.b.2 x (List.mem_filter.1 hx).1⟩,e:=?_,w:=?_,a:=?_ }
 ·intro id t ht
  obtain ⟨h1,x,hx,hi⟩:=h.e id t ht
  refine ⟨h1,x,List.mem_filter.2 ⟨hx,?_⟩,hi⟩
  have:id≠b.id:=by intro e; subst e; rw [he] at ht; cases ht
  simp; omega
 ·refine ⟨fun k id w hk=>?_,fun k=>?_,?_⟩
  ·obtain ⟨⟨h1,h2,h3,h4⟩,x,hx,hi,hh⟩:=h.w.1 k id w hk
   refine ⟨⟨h1,?_,h3,h4⟩,x,List.mem_filter.2 ⟨hx,?_⟩,hi,hh⟩
   ·simp only [hdd]
    refine Int.le_trans h2 (Int.mul_le_mul_of_nonneg_left (by omega) (by omega))
   ·have:x.id≠b.id:=by
     intro e
     have e1:=h.find hx
     have e2:=h.find hb
     rw [e,e2] at e1
     simp only [Option.some.injEq] at e1
     subst e1
     rw [← hi,← hh,hw] at hk; cases hk
    simpa using this
  ·have:=h.w.2.1 k
   simp only [hdd]; omega
  ·simp only [hdd]; have:=h.w.2.2; omega
 ·intro id t ht
  simp only [ups] at ht
  split at ht
  ·cases ht
  ·exact h.a id t ht
theorem WF.gone (h:WF s) {b:Box} (hb:b∈s.boxes):WF (s.gone b):=by
 unfold CS.gone
 have h1:=h.take b
 have k : ∀ s2:CS,WF s2→s2.boxes=s.boxes→s2.ends b.id=none→s2.worth b.host b.id=none→WF { s2.hGive b.host b.mem with boxes:=(s2.hGive b.host b.mem).boxes.filter (fun x=>x.id != b.id),ahead:=ups (s2.hGive b.host b.mem).ahead b.id none }:=by
  intro s2 w2 e1 e2 e3
  have:=w2.hGive b.host b.mem
  have e4:(s2.hGive b.host b.mem).boxes=s2.boxes∧(s2.hGive b.host b.mem).ends=s2.ends∧(s2.hGive b.host b.mem).worth=s2.worth:=by unfold CS.hGive; split <;> exact ⟨rfl,rfl,rfl⟩
  exact this.remove (by rw [e4.1,e1]; exact hb) (by rw [e4.2.1]; exact e2) (by rw [e4.2.2]; exact e3)
 have t1:(s.take b).boxes=s.boxes:=rfl
 have t2:(s.take b).ends b.id=none:=by simp [CS.take,ups]
 have t3:(s.take b).worth b.host b.id=none:=by simp [CS.take,ups2]
 have eb : ∀ f,((s.take b).ended f).boxes=s.boxes∧((s.take b).ended f).ends b.id=none∧((s.take b).ended f).worth b.host b.id=none:=by
  intro f
  unfold CS.ended CS.setFn CS.qEnd
  split <;> exact ⟨t1,t2,t3⟩
 split
 ·exact k _ (h1.ended b.fn) (eb _).1 (eb _).2.1 (eb _).2.2
 ·exact k _ h1 t1 t2 t3
theorem WF.out (h:WF s) (o:List Cmd):WF { s with out:=o }:={ h with }
theorem WF.kill (h:WF s) {b:Box} (hb:b∈s.boxes):WF (s.kill b):=(h.gone hb).out _
theorem WF.worthOf (h:WF s) {b:Box} (hb:b∈s.boxes) : ∃ w,s.worthOf b=some w∧0≤w.1∧w.1≤w.2*(1000000*(deads s.boxes s.next+1))∧1≤w.2∧w.2≤4096:=by
 obtain ⟨x,hx,_⟩:=(h.b.2 b hb).fn
 have hf:=(h.f _ x hx).2.1
 have hc:=h.w.2.1 b.host
 refine ⟨_,by unfold CS.worthOf; rw [hx]; rfl,?_,?_,hf.mem.1,hf.mem.2⟩
 ·have h1:=Int.mul_nonneg hc.1 (show 0≤x.mem by have:=hf.mem.1; omega)
  have h2:=Int.mul_nonneg hf.often.1 (show 0≤x.cost by have:=hf.cost.1; omega)
  simp only; omega
 ·have h1:x.often*x.cost≤1000*1000:=Int.mul_le_mul hf.often.2 hf.cost.2 (by have:=hf.cost.1; omega) (by omega)
  have h2:s.clock b.host*x.mem≤1000000*deads s.boxes s.next*x.mem:=Int.mul_le_mul_of_nonneg_right hc.2 (by have:=hf.mem.1; omega)
  have h3:x.mem*(1000000*(deads s.boxes s.next+1))=1000000*deads s.boxes s.next*x.mem+1000000*x.mem:=by
   generalize deads s.boxes s.next=d; grind
  have:=hf.mem.1
  simp only; omega
theorem WF.idle (h:WF s) {b:Box} (hb:b∈s.boxes) {t:Int} (ht:t≤topT):WF (s.idle b t):=by
 unfold CS.idle
 split
 ·exact h.kill hb
 ·rename_i hlt
  refine { h with e:=?_,w:=?_ }
  ·intro id u hu
   simp only [ups] at hu
   split at hu
   ·rename_i he
    simp only [Option.some.injEq] at hu
    subst hu
    exact ⟨⟨by have:=h.now.1; omega,ht⟩,b,hb,he.symm⟩
   ·exact h.e id u hu
  ·refine ⟨fun k id w hw=>?_,h.w.2⟩
   simp only [ups2] at hw
   split at hw
   ·rename_i he
    obtain ⟨w',hw',h1⟩:=h.worthOf hb
    rw [hw'] at hw
    simp only [Option.some.injEq] at hw
    subst hw
    exact ⟨h1,b,hb,he.2.symm,he.1.symm⟩
   ·exact h.w.1 k id w hw
end
end Gh

namespace Go.Ab
open Go Gh
variable {P : Program} {F : Nums}
theorem rowOf_at0 {α:Type} {e:Nat} {cells:α→List AV} {g:Nat→α} {i:Nat} (hj:0<e):rowOf e cells g (i*e)=(cells (g i)).getD 0 .any:=rowOf_at (j:=0) hj
attribute [go_sem] rowOf_at rowOf_at0 Nat.zero_lt_succ Int.cast_ofNat_Int
theorem upn_eq {α:Type} {g:Nat→α} {i:Nat} {x:α}:(fun k=>if k=i then x else g k)=upn g i x:=rfl
theorem upd_mach1 {g:Nat→Mach} {i:Nat} {v:Bool}:upd (rowOf 4 machC g) (i*4+1) (.bool v)=rowOf 4 machC (upn g i { g i with draining:=v }) :=
 rowOf_upd (x:={ g i with draining:=v }) (by decide) fun k hk=>by
  have:k=0∨k=1∨k=2∨k=3:=by omega
  rcases this with rfl | rfl | rfl | rfl <;> rfl
theorem upd_mach3 {g:Nat→Mach} {i:Nat} {v:Int}:upd (rowOf 4 machC g) (i*4+3) (.int .i64 v)=rowOf 4 machC (upn g i { g i with used:=v }) :=
 rowOf_upd (x:={ g i with used:=v }) (by decide) fun k hk=>by
  have:k=0∨k=1∨k=2∨k=3:=by omega
  rcases this with rfl | rfl | rfl | rfl <;> rfl
theorem upd_mach {g:Nat→Mach} {i:Nat} {a b:Bool} {c d:Int}:updN (rowOf 4 machC g) (i*4) [.bool a,.bool b,.int .i64 c,.int .i64 d]=rowOf 4 machC (upn g i ⟨a,b,c,d⟩) :=
 rowOf_updN (j:=0) (x:=(⟨a,b,c,d⟩:Mach)) (by simp) (by decide) fun k hk=>by
  have:k=0∨k=1∨k=2∨k=3:=by omega
  rcases this with rfl | rfl | rfl | rfl <;> rfl
theorem hThere_iff {s:CS} {h:Int}:s.hThere h=true↔(0≤h∧h<32)∧(s.hosts h.toNat).there=true:=by
 unfold CS.hThere; simp [and_assoc]
theorem host_there_c (G:Good P F) {n:Nm} (s:CS) {h:Int} {H:AH} (hn:H.f n=some (.row 128 (rowOf 4 machC s.hosts))) :
  ACalls P F.host_there [.ptr n 0,i64 h] H (fun v H'=>v=.bool (s.hThere h)∧Same H H'):=by
 refine fn_rule G.mixed G.host_there rfl [] (fun hcl=>?_)
 repeat' (first | refine EI_i (fun _=>?_) (fun _=>?_) | simp only [go_sem,hn])
 ·rename_i h1 h2
  simp only [ge_iff_le,decide_eq_true_eq] at h1 h2
  exact ⟨⟨h1,h2⟩,by omega,by simp [CS.hThere,h1,h2],Same.mk1⟩
 ·rename_i h1 h2
  have h2 : ¬ h<32:=by simpa using h2
  exact ⟨by simp [CS.hThere,h2],Same.mk1⟩
 ·rename_i h1
  have h1 : ¬ 0≤h:=by simpa using h1
  exact ⟨by simp [CS.hThere,h1],Same.mk1⟩
theorem host_There_c (G:Good P F) {n:Nm} (s:CS) {h:Int} {H:AH} (hn:H.f n=some (.row 128 (rowOf 4 machC s.hosts))) :
  ACalls P F.host_There [.ptr n 0,i64 h] H (fun v H'=>v=.bool (s.hThere h)∧Same H H'):=by
 refine fn_rule G.mixed G.host_There rfl [] (fun hcl=>?_)
 simp only [go_sem]
 refine CA_s [] (host_there_c G s hn) ?_
 rintro _ H1 ⟨rfl,h1⟩ _ _
 simp only [go_sem]
 exact h1.of_mk.mk'
theorem host_Up_c (G:Good P F) {n:Nm} (ht:n.t≠0) (s:CS) {h:Int} {H:AH} (hn:H.f n=some (.row 128 (rowOf 4 machC s.hosts))) :
  ACalls P F.host_Up [.ptr n 0,i64 h] H (fun v H'=>v=.bool (s.up h)∧Same H H'):=by
 refine fn_rule G.mixed G.host_Up rfl [] (fun hcl=>?_)
 simp only [go_sem]
 refine CA_s [] (host_there_c G s hn) ?_
 rintro _ H1 ⟨rfl,h1⟩ _ _
 have hn1:=h1.of_mk.some (old_of ht) hn
 repeat' (first | refine EI_i (fun _=>?_) (fun _=>?_) | simp only [go_sem,hn1])
 ·rename_i h2
  have h3:=hThere_iff.1 h2
  exact ⟨h3.1,by omega,by simp [CS.up,h2],h1.of_mk.mk'⟩
 ·rename_i h2
  exact ⟨by simp [CS.up,h2],h1.of_mk.mk'⟩
theorem host_Free_c (G:Good P F) {n:Nm} (ht:n.t≠0) (s:CS) {h:Int} {H:AH} (hn:H.f n=some (.row 128 (rowOf 4 machC s.hosts))) (hw:WfH s.hosts) :
  ACalls P F.host_Free [.ptr n 0,i64 h] H (fun v H'=>v=i64 (s.free h)∧Same H H'):=by
 refine fn_rule G.mixed G.host_Free rfl [] (fun hcl=>?_)
 simp only [go_sem]
 refine CA_s [] (host_there_c G s hn) ?_
 rintro _ H1 ⟨rfl,h1⟩ _ _
 have hn1:=h1.of_mk.some (old_of ht) hn
 have hm:=hw h.toNat
 unfold WMach at hm
 have e:IntKind.i64.wrap ((s.hosts h.toNat).size-(s.hosts h.toNat).used)=(s.hosts h.toNat).size-(s.hosts h.toNat).used:=wrap64 (by omega) (by omega)
 simp only [go_sem]
 refine EI_i (fun h2=>?_) (fun h2=>?_)
 ·have h2:s.hThere h=false:=by simpa using h2
  simp only [go_sem]
  exact ⟨by simp [CS.free,h2],h1.of_mk.mk'⟩
 ·have h2:s.hThere h=true:=by simpa using h2
  have h3:=hThere_iff.1 h2
  have b2:h.toNat*4+2<128:=by omega
  have b3:h.toNat*4+3<128:=by omega
  simp only [go_sem,hn1,e,h3.1.1,h3.1.2,b2,b3]
  exact ⟨by simp [CS.free,h2],h1.of_mk.mk'⟩
theorem free_bd {s:CS} (hw:WfH s.hosts) (h:Int):0≤s.free h∧s.free h≤4096:=by
 unfold CS.free
 have hm:=hw h.toNat
 unfold WMach at hm
 split <;> omega
theorem up_bd {s:CS} {h:Int} (hu:s.up h=true):(0≤h∧h<32)∧s.hThere h=true:=by
 unfold CS.up at hu
 simp only [Bool.and_eq_true] at hu
 exact ⟨(hThere_iff.1 hu.1).1,hu.1⟩
theorem host_Take_c (G:Good P F) {n:Nm} (ht:n.t≠0) (s:CS) {h mem:Int} {H:AH} (hn:H.f n=some (.row 128 (rowOf 4 machC s.hosts))) (hw:WfH s.hosts) :
  ACalls P F.host_Take [.ptr n 0,i64 h,i64 mem] H (fun _ H'=>H'.f n=some (.row 128 (rowOf 4 machC (s.hTake h mem).hosts))∧Fra (At n) H H'):=by
 refine fn_rule G.mixed G.host_Take rfl [] (fun hcl=>?_)
 simp only [go_sem]
 refine CA_s [] (host_Up_c G ht s hn) ?_
 rintro _ H1 ⟨rfl,h1⟩ _ _
 have h1:=h1.of_mk
 have hn1:=h1.some (old_of ht) hn
 simp only [go_sem,hn1]
 refine EI_i (fun hu=>?_) (fun hu=>?_)
 ·have hu:s.up h=false:=by simpa using hu
  simp only [go_sem,hn1]
  exact ⟨by unfold CS.hTake; rw [if_pos (by simp [hu])],h1.fra.mk'⟩
 have hu:s.up h=true:=by simpa using hu
 have hb:=up_bd hu
 simp only [go_sem,hn1]
 refine EI_i (fun hm=>?_) (fun hm=>?_)
 ·have hm:mem<0:=by simpa using hm
  simp only [go_sem,hn1]
  exact ⟨by unfold CS.hTake; rw [if_pos (by simp [hm])],h1.fra.mk'⟩
 have hm:0≤mem:=by simpa using hm
 simp only [go_sem]
 refine CA_s [] (host_Free_c G ht s hn1 hw) ?_
 rintro _ H2 ⟨rfl,h2⟩ _ _
 have h2:=h1.trans h2.of_mk
 have hn2:=h2.some (old_of ht) hn
 simp only [go_sem]
 refine EI_i (fun hf=>?_) (fun hf=>?_)
 ·have hf:s.free h<mem:=by simpa using hf
  simp only [go_sem,hn2]
  exact ⟨by unfold CS.hTake; rw [if_pos (by simp [hf])],h2.fra.mk'⟩
 have hf:mem≤s.free h:=by simpa using hf
 have hfb:=free_bd hw h
 have hmb:=hw h.toNat
 unfold WMach at hmb
 have e:IntKind.i64.wrap ((s.hosts h.toNat).used+mem)=(s.hosts h.toNat).used+mem:=wrap64 (by omega) (by omega)
 have b3:h.toNat*4+3<128:=by omega
 simp only [go_sem,hn2,e,hb.1.1,hb.1.2,b3]
 refine ⟨?_,Fra.s1 h2.fra.mk'⟩
 rw [upd_mach3]
 unfold CS.hTake
 rw [if_neg (by simp [hu]; omega)]
end Go.Ab

namespace Gh
open CS
section
variable {s : CS}
theorem setBox_mem {b:Box} {y:Box} (hy:y∈(s.setBox b).boxes):(y=b ∧ ∃ x∈s.boxes,x.id=b.id)∨(y∈s.boxes∧y.id≠b.id):=by
 simp only [CS.setBox,List.mem_map] at hy
 obtain ⟨x,hx,he⟩:=hy
 split at he
 ·rename_i hi; exact .inl ⟨he.symm,x,hx,hi⟩
 ·rename_i hi; subst he; exact .inr ⟨hx,hi⟩
theorem setBox_ids {b:Box}:(s.setBox b).boxes.map Box.id=s.boxes.map Box.id:=by
 simp only [CS.setBox,List.map_map]
 refine List.map_congr_left fun x _=>?_
 simp only [Function.comp]
 split
 ·rename_i h; exact h.symm
 ·rfl
theorem setBox_len {b:Box}:(s.setBox b).boxes.length=s.boxes.length:=by simp [CS.setBox]
theorem pairwise_ids {l l':List Box} (h:l'.map Box.id=l.map Box.id) (hp:l.Pairwise (fun a b=>a.id<b.id)):l'.Pairwise (fun a b=>a.id<b.id):=by
 have:=(List.pairwise_map (f:=Box.id) (R:=fun a b=>a<b)).2 hp
 rw [← h] at this
 exact (List.pairwise_map (f:=Box.id) (R:=fun a b=>a<b)).1 this
theorem WF.setBox (h:WF s) {b a:Box} (ha:a∈s.boxes) (hi:b.id=a.id) (hf:b.fn=a.fn) (hh:b.host=a.host) (hm:b.mem=a.mem) (hs:0≤b.st∧b.st≤2) (ht:0≤b.since∧b.since≤s.now):WF (s.setBox b):=by
 have hab:=h.b.2 a ha
 have e4 : ∀ x∈s.boxes,∃ y∈(s.setBox b).boxes,y.id=x.id∧y.host=x.host:=by
  intro x hx
  simp only [CS.setBox,List.mem_map]
  by_cases he:x.id=b.id
  ·refine ⟨b,⟨x,hx,by rw [if_pos he]⟩,he.symm,?_⟩
   have e1:=h.find hx
   have e2:=h.find ha
   rw [he,hi,e2] at e1
   simp only [Option.some.injEq] at e1
   subst e1
   exact hh
  ·exact ⟨x,⟨x,hx,by rw [if_neg he]⟩,rfl,rfl⟩
 refine { h with b:=⟨pairwise_ids setBox_ids h.b.1,fun y hy=>?_⟩,e:=fun id t ht=>?_,w:=⟨fun k id w hw=>?_,fun k=>?_,?_⟩ }
 ·rcases setBox_mem hy with ⟨rfl,_⟩ | ⟨hy,_⟩
  ·exact ⟨by rw [hi]; exact hab.id,by rw [hf,hm]; exact hab.fn,by rw [hh]; exact hab.host,hs,ht⟩
  ·exact h.b.2 y hy
 ·obtain ⟨h1,x,hx,he⟩:=h.e id t ht
  obtain ⟨y,hy,h2,_⟩:=e4 x hx
  exact ⟨h1,y,hy,by rw [h2,he]⟩
 ·obtain ⟨h1,x,hx,he,hk⟩:=h.w.1 k id w hw
  obtain ⟨y,hy,h2,h3⟩:=e4 x hx
  refine ⟨?_,y,hy,by rw [h2,he],by rw [h3,hk]⟩
  have:deads (s.setBox b).boxes s.next=deads s.boxes s.next:=by unfold deads; rw [setBox_len]
  show 0≤w.1∧w.1≤w.2*(1000000*(deads (s.setBox b).boxes s.next+1))∧_
  rw [this]; exact h1
 ·have:deads (s.setBox b).boxes s.next=deads s.boxes s.next:=by unfold deads; rw [setBox_len]
  show 0≤s.clock k∧s.clock k≤1000000*deads (s.setBox b).boxes s.next
  rw [this]; exact h.w.2.1 k
 ·have:deads (s.setBox b).boxes s.next=deads s.boxes s.next:=by unfold deads; rw [setBox_len]
  show 0≤deads (s.setBox b).boxes s.next
  rw [this]; exact h.w.2.2
theorem WF.start (h:WF s) {f k:Int} {x:Fnc} (hx:s.fns f=some x) (hk:0≤k∧k<32):WF (s.start f k).1∧(s.start f k).2∈(s.start f k).1.boxes:=by
 have h1:=h.hTake k x.mem
 have e:(s.hTake k x.mem).boxes=s.boxes∧(s.hTake k x.mem).next=s.next∧(s.hTake k x.mem).now=s.now∧(s.hTake k x.mem).fns=s.fns:=by unfold CS.hTake; split <;> exact ⟨rfl,rfl,rfl,rfl⟩
 have hm:=(h.f f x hx).2.1.mem
 have hdd : ∀ b:Box,deads (s.boxes++[b]) (s.next+1)=deads s.boxes s.next:=by intro b; unfold deads; simp; omega
 have hnx:0≤deads s.boxes s.next:=h.w.2.2
 have em:s.memOf f=x.mem:=by unfold CS.memOf; rw [hx]
 unfold CS.start
 rw [em]
 simp only
 refine ⟨{ h1 with b:=?_,e:=?_,w:=⟨?_,?_,?_⟩ },by simp⟩
 ·rw [e.1,e.2.2.1,e.2.2.2]
  have h2:=h.b.imp (next':=s.next+1) (now':=s.now) (fns':=s.fns) (by omega) (Int.le_refl _) fun f x hx=>⟨x,hx,rfl⟩
  refine ⟨?_,fun b hb=>?_⟩
  ·rw [List.pairwise_append]
   refine ⟨h2.1,by simp,fun a ha b hb=>?_⟩
   simp only [List.mem_singleton] at hb
   subst hb
   exact (h.b.2 a ha).id.2
  ·rcases List.mem_append.1 hb with hb | hb
   ·exact h2.2 b hb
   ·simp only [List.mem_singleton] at hb
    subst hb
    refine ⟨⟨?_,by simp only; omega⟩,⟨x,hx,rfl⟩,hk,⟨by simp,by simp⟩,⟨h.now.1,Int.le_refl _⟩⟩
    simp only
    unfold deads at hnx
    omega
 ·intro id t ht
  obtain ⟨g1,y,hy,hi⟩:=h1.e id t ht
  exact ⟨g1,y,List.mem_append_left _ hy,hi⟩
 ·intro k' id w hw
  obtain ⟨g1,y,hy,hi⟩:=h1.w.1 k' id w hw
  rw [e.1,e.2.1] at g1
  rw [e.1,hdd]
  rw [e.1] at hy
  exact ⟨g1,y,List.mem_append_left _ hy,hi⟩
 ·intro k'
  have:=h1.w.2.1 k'
  rw [e.1,e.2.1] at this
  rw [e.1,hdd]; exact this
 ·rw [e.1,hdd]; exact hnx
theorem WF.win (h:WF s) (f:Int):0≤(s.win f).pre∧(s.win f).pre≤(s.win f).stop∧(s.win f).stop≤2 ^ 41:=by
 unfold CS.win
 cases hx:s.fns f with
 | none=>simp
 | some x =>
  have:=(h.f f x hx).2.1
  have:=winOf_bd this.h this.r
  simp only; omega
theorem WF.stop (h:WF s) (f:Int):s.now+(s.win f).stop≤topT:=by
 have:=(h.win f).2.2
 have:=h.now.2
 unfold topT maxTime at *
 omega
theorem WF.unpin (h:WF s) {b:Box} (hb:b∈s.boxes) (f:Int):WF (s.unpin f b):=by
 unfold CS.unpin
 have hbb:=h.b.2 b hb
 have h1:WF (s.setBox { b with pinned:=false }):=h.setBox hb rfl rfl rfl rfl hbb.st hbb.since
 split
 ·refine h1.idle ?_ (h.stop f)
  simp only [CS.setBox,List.mem_map]
  exact ⟨b,hb,by simp⟩
 ·exact h1
theorem WF.pin (h:WF s) {b:Box} (hb:b∈s.boxes):WF (s.pin b):=by
 have hbb:=h.b.2 b hb
 exact (h.take b).setBox hb rfl rfl rfl rfl hbb.st hbb.since
theorem find_mem {s:CS} {id:Int} {b:Box} (h:s.find id=some b):b∈s.boxes:=(find_some h).1
theorem best_mem {α:Type} {lt:α→α→Bool} : ∀ {l:List α} {x:α},best lt l=some x→x∈l
 | [],_,h=>by simp [best] at h
 | y::r,x,h=>by
  simp only [best] at h
  cases hb:best lt r with
  | none=>simp only [hb,Option.some.injEq] at h; subst h; simp
  | some z =>
   simp only [hb] at h
   split at h
   ·simp only [Option.some.injEq] at h; subst h; exact List.mem_cons_of_mem _ (best_mem hb)
   ·simp only [Option.some.injEq] at h; subst h; simp
theorem best_none {α:Type} {lt:α→α→Bool} {l:List α}:best lt l=none↔l=[]:=by
 cases l with
 | nil=>simp [best]
 | cons x r =>
  simp only [best]
  cases best lt r with
  | none=>simp
  | some y=>simp only; split <;> simp
theorem kill_clock (s:CS) (c:Int→Int) (b:Box):({ s with clock:=c }:CS).kill b={ s.kill b with clock:=c }:=by
 unfold CS.kill CS.gone
 have e1:({ s with clock:=c }:CS).take b={ s.take b with clock:=c }:=rfl
 have e2 : ∀ (s:CS) f,({ s with clock:=c }:CS).ended f={ s.ended f with clock:=c }:=by
  intro s f
  unfold CS.ended CS.qEnd CS.known CS.setFn
  split <;> rfl
 have e3 : ∀ (s:CS) k m,({ s with clock:=c }:CS).hGive k m={ s.hGive k m with clock:=c }:=by
  intro s k m
  unfold CS.hGive CS.hThere
  split <;> rfl
 rw [e1]
 by_cases h:b.runs=true
 ·simp only [h,if_true]; rw [e2,e3]
 ·simp only [h,if_false,Bool.false_eq_true]; rw [e3]
theorem gone_boxes (s:CS) (b:Box):(s.gone b).boxes=s.boxes.filter (fun x=>x.id != b.id)∧(s.gone b).next=s.next∧(s.gone b).clock=s.clock∧(s.gone b).now=s.now:=by
 unfold CS.gone
 have e2 : ∀ (s:CS) f,(s.ended f).boxes=s.boxes∧(s.ended f).next=s.next∧(s.ended f).clock=s.clock∧(s.ended f).now=s.now:=by
  intro s f
  unfold CS.ended CS.qEnd CS.setFn
  split <;> exact ⟨rfl,rfl,rfl,rfl⟩
 have e3 : ∀ (s:CS) k m,(s.hGive k m).boxes=s.boxes∧(s.hGive k m).next=s.next∧(s.hGive k m).clock=s.clock∧(s.hGive k m).now=s.now:=by
  intro s k m
  unfold CS.hGive
  split <;> exact ⟨rfl,rfl,rfl,rfl⟩
 by_cases h:b.runs=true
 ·simp only [h,if_true,e3,e2]; exact ⟨rfl,rfl,rfl,rfl⟩
 ·simp only [h,if_false,Bool.false_eq_true,e3]; exact ⟨rfl,rfl,rfl,rfl⟩
theorem kill_boxes (s:CS) (b:Box):(s.kill b).boxes=s.boxes.filter (fun x=>x.id != b.id)∧(s.kill b).next=s.next∧(s.kill b).clock=s.clock∧(s.kill b).now=s.now:=gone_boxes s b
theorem WF.setClock (h:WF s) (k c:Int) (hc:0≤c∧c≤1000000*deads s.boxes s.next):WF { s with clock:=ups s.clock k c } :=
 { h with w:=⟨h.w.1,fun j=>by
   simp only [ups]
   split
   ·exact hc
   ·exact h.w.2.1 j,h.w.2.2⟩ }
theorem WF.unworth (h:WF s) (k id:Int):WF { s with worth:=ups2 s.worth k id none } :=
 { h with w:=⟨fun j i w hw=>by
   simp only [ups2] at hw
   split at hw
   ·cases hw
   ·exact h.w.1 j i w hw,h.w.2⟩ }
theorem cands_mem {k:Int} {w:Int × Int} {id:Int} (h:(w,id)∈s.cands k):s.worth k id=some w ∧ ∃ b∈s.boxes,b.id=id:=by
 simp only [CS.cands,List.mem_filterMap,Option.map_eq_some_iff,Prod.mk.injEq] at h
 obtain ⟨y,hy,w',hw,rfl,rfl⟩:=h
 exact ⟨hw,y,hy,rfl⟩
theorem WF.evict1 (h:WF s) {k:Int} {w:Int × Int} {b:Box} (hw:s.worth k b.id=some w) (hb:b∈s.boxes) :
  WF ({ s with worth:=ups2 s.worth k b.id none,clock:=ups s.clock k (max (s.clock k) (w.1 / w.2)) }.kill b):=by
 have h1:=(h.unworth k b.id).kill (b:=b) hb
 have e:=kill_clock { s with worth:=ups2 s.worth k b.id none } (ups s.clock k (max (s.clock k) (w.1 / w.2))) b
 rw [e]
 have eb:=kill_boxes { s with worth:=ups2 s.worth k b.id none } b
 have h2:=h1.setClock k (max (s.clock k) (w.1 / w.2)) ?_
 ·rw [eb.2.2.1] at h2; exact h2
 ·have hlen:=pairwise_filter_len h.b.1 hb
  have hdd:deads (s.boxes.filter fun x=>x.id != b.id) s.next=deads s.boxes s.next+1:=by unfold deads; omega
  rw [eb.1,eb.2.1]
  simp only
  rw [hdd]
  obtain ⟨⟨w1,w2,w3,w4⟩,_⟩:=h.w.1 k b.id w hw
  have hc:=h.w.2.1 k
  have h3:w.1 / w.2≤1000000*(deads s.boxes s.next+1):=Int.ediv_le_of_le_mul (by omega) (by rw [Int.mul_comm]; exact w2)
  have h4:0≤w.1 / w.2:=Int.ediv_nonneg w1 (by omega)
  omega
theorem WF.evict (k mem:Int) : ∀ n {s:CS},WF s→WF (s.evict k mem n):=by
 intro n
 induction n with
 | zero=>intro s h; exact h
 | succ n ih =>
  intro s h
  simp only [CS.evict]
  split
  ·split
   ·exact h
   ·rename_i w id hbest
    split
    ·exact h
    ·rename_i b hfind
     have hb:=find_some hfind
     have hc:=cands_mem (best_mem hbest)
     obtain rfl:=hb.2
     exact ih (h.evict1 hc.1 hb.1)
  ·exact h
theorem fitN_bd {mem:Int} : ∀ (n:Nat) {h:Int},s.fitN mem n=some h→(0≤h∧h<n)∧s.up h=true∧0≤mem∧mem≤s.free h
 | 0,h,hh=>by simp [CS.fitN] at hh
 | n+1,h,hh=>by
  simp only [CS.fitN] at hh
  cases hn:s.fitN mem n with
  | none =>
   simp only [hn] at hh
   split at hh
   ·rename_i hc
    simp only [Option.some.injEq] at hh
    subst hh
    simp only [Bool.and_eq_true,decide_eq_true_eq] at hc
    exact ⟨by omega,hc.1.1,hc.1.2,hc.2⟩
   ·cases hh
  | some b =>
   have:=fitN_bd n hn
   simp only [hn] at hh
   split at hh
   ·rename_i hc
    simp only [Option.some.injEq] at hh
    subst hh
    simp only [Bool.and_eq_true,decide_eq_true_eq] at hc
    exact ⟨by omega,hc.1.1.1,hc.1.1.2,hc.1.2⟩
   ·simp only [Option.some.injEq] at hh
    subst hh
    exact ⟨by omega,this.2⟩
theorem fit_bd {mem h:Int} (hh:s.fit mem=some h):(0≤h∧h<32)∧s.up h=true∧0≤mem∧mem≤s.free h:=fitN_bd 32 hh
theorem WF.room (h:WF s) (mem:Int):WF (s.room mem).1 ∧ ∀ k,(s.room mem).2=some k→0≤k∧k<32:=by
 unfold CS.room
 cases hf:s.fit mem with
 | some k =>
  refine ⟨h,fun k' hk=>?_⟩
  simp only [Option.some.injEq] at hk
  subst hk
  exact (fit_bd hf).1
 | none =>
  simp only
  cases hr:(List.range 32).find? fun (h:Nat)=>s.up (h:Int)&&decide (mem≤s.free (h:Int)+s.loose (h:Int)) with
  | none=>exact ⟨h,fun k hk=>by cases hk⟩
  | some k =>
   refine ⟨WF.evict _ _ _ h,fun k' hk=>?_⟩
   simp only [Option.some.injEq] at hk
   subst hk
   have:=List.mem_of_find?_eq_some hr
   simp only [List.mem_range] at this
   omega
def Fnc.fix (x:Fnc):Fnc:={ x with last:=0 }
structure Ke (s s':CS):Prop where
 now:s'.now=s.now
 next:s.next≤s'.next
 fns : ∀ f,(s'.fns f).map Fnc.fix=(s.fns f).map Fnc.fix
 acc:s'.acc=s.acc
 qf : ∀ i,(s'.qf i).there=(s.qf i).there∧(s'.qf i).account=(s.qf i).account∧(s'.qf i).reserved=(s.qf i).reserved
 tok:s'.tok=s.tok
 boots:s'.boots=s.boots
 ans:s'.ans=s.ans
theorem Ke.refl (s:CS):Ke s s:=⟨rfl,Int.le_refl _,fun _=>rfl,rfl,fun _=>⟨rfl,rfl,rfl⟩,rfl,rfl,rfl⟩
theorem Ke.trans {a b c:CS} (h:Ke a b) (k:Ke b c):Ke a c :=
 ⟨k.now.trans h.now,Int.le_trans h.next k.next,fun f=>(k.fns f).trans (h.fns f),k.acc.trans h.acc,
  fun i=>⟨(k.qf i).1.trans (h.qf i).1,(k.qf i).2.1.trans (h.qf i).2.1,(k.qf i).2.2.trans (h.qf i).2.2⟩,k.tok.trans h.tok,k.boots.trans h.boots,k.ans.trans h.ans⟩
theorem Ke.fn {s s':CS} (h:Ke s s') {f:Int} {x:Fnc} (hx:s.fns f=some x) : ∃ y,s'.fns f=some y∧y.fix=x.fix:=by
 have:=h.fns f
 rw [hx] at this
 cases hy:s'.fns f with
 | none=>rw [hy] at this; cases this
 | some y=>rw [hy] at this; exact ⟨y,rfl,Option.some.inj this⟩
theorem Ke.nofn {s s':CS} (h:Ke s s') {f:Int} (hx:s.fns f=none):s'.fns f=none:=by
 have:=h.fns f
 rw [hx] at this
 cases hy:s'.fns f with
 | none=>rfl
 | some y=>rw [hy] at this; cases this
theorem Ke.win {s s':CS} (h:Ke s s') (f:Int):s'.win f=s.win f:=by
 unfold CS.win
 cases hx:s.fns f with
 | none=>rw [h.nofn hx]
 | some x =>
  obtain ⟨y,hy,he⟩:=h.fn hx
  rw [hy]
  have e1:y.fix.h=x.fix.h:=by rw [he]
  have e1:y.h=x.h:=e1
  have e2:y.fix.r=x.fix.r:=by rw [he]
  have e2:y.r=x.r:=e2
  simp only [e1,e2]
theorem Ke.keepOf {s s':CS} (h:Ke s s') (f:Int):s'.keepOf f=s.keepOf f:=by
 unfold CS.keepOf
 cases hx:s.fns f with
 | none=>rw [h.nofn hx]
 | some x =>
  obtain ⟨y,hy,he⟩:=h.fn hx
  rw [hy]
  have e1:y.fix.keep=x.fix.keep:=by rw [he]
  have e1:y.keep=x.keep:=e1
  simp only [e1]
theorem Ke.take (s:CS) (b:Box):Ke s (s.take b):=⟨rfl,Int.le_refl _,fun _=>rfl,rfl,fun _=>⟨rfl,rfl,rfl⟩,rfl,rfl,rfl⟩
theorem Ke.setBox (s:CS) (b:Box):Ke s (s.setBox b):=⟨rfl,Int.le_refl _,fun _=>rfl,rfl,fun _=>⟨rfl,rfl,rfl⟩,rfl,rfl,rfl⟩
theorem Ke.ended (s:CS) (f:Int):Ke s (s.ended f):=by
 unfold CS.ended CS.qEnd CS.setFn
 have hf : ∀ (fns:Int→Option Fnc) k,((ups fns f ((fns f).map fun x=>{ x with last:=s.now })) k).map Fnc.fix=(fns k).map Fnc.fix:=by
  intro fns k
  simp only [ups]
  split
  ·rename_i he; subst he
   cases fns k <;> rfl
  ·rfl
 split
 ·refine ⟨rfl,Int.le_refl _,hf s.fns,rfl,fun i=>?_,rfl,rfl,rfl⟩
  simp only [upn]
  split
  ·rename_i he; subst he; exact ⟨rfl,rfl,rfl⟩
  ·exact ⟨rfl,rfl,rfl⟩
 ·exact ⟨rfl,Int.le_refl _,hf s.fns,rfl,fun i=>⟨rfl,rfl,rfl⟩,rfl,rfl,rfl⟩
theorem Ke.hosts (s:CS) (hosts:Nat→Mach):Ke s { s with hosts:=hosts }:=⟨rfl,Int.le_refl _,fun _=>rfl,rfl,fun _=>⟨rfl,rfl,rfl⟩,rfl,rfl,rfl⟩
theorem Ke.hGive (s:CS) (k m:Int):Ke s (s.hGive k m):=by
 unfold CS.hGive; split
 ·exact .refl s
 ·exact .hosts s _
theorem Ke.hTake (s:CS) (k m:Int):Ke s (s.hTake k m):=by
 unfold CS.hTake; split
 ·exact .refl s
 ·exact .hosts s _
theorem Ke.gone (s:CS) (b:Box):Ke s (s.gone b):=by
 unfold CS.gone
 have k : ∀ s2:CS,Ke s s2→Ke s { s2.hGive b.host b.mem with boxes:=(s2.hGive b.host b.mem).boxes.filter (fun x=>x.id != b.id),ahead:=ups (s2.hGive b.host b.mem).ahead b.id none }:=fun s2 h =>
  (h.trans (.hGive s2 _ _)).trans ⟨rfl,Int.le_refl _,fun _=>rfl,rfl,fun _=>⟨rfl,rfl,rfl⟩,rfl,rfl,rfl⟩
 by_cases h:b.runs=true
 ·simp only [h,if_true]; exact k _ ((Ke.take s b).trans (.ended _ _))
 ·simp only [h,if_false,Bool.false_eq_true]; exact k _ (.take s b)
theorem Ke.kill (s:CS) (b:Box):Ke s (s.kill b):=(Ke.gone s b).trans ⟨rfl,Int.le_refl _,fun _=>rfl,rfl,fun _=>⟨rfl,rfl,rfl⟩,rfl,rfl,rfl⟩
theorem Ke.idle (s:CS) (b:Box) (t:Int):Ke s (s.idle b t):=by
 unfold CS.idle; split
 ·exact .kill s b
 ·exact ⟨rfl,Int.le_refl _,fun _=>rfl,rfl,fun _=>⟨rfl,rfl,rfl⟩,rfl,rfl,rfl⟩
theorem Ke.start (s:CS) (f h:Int):Ke s (s.start f h).1:=by
 unfold CS.start
 simp only
 generalize s.memOf f=m
 have e:(s.hTake h m).next=s.next:=by unfold CS.hTake; split <;> rfl
 refine (Ke.hTake s h m).trans ⟨rfl,?_,fun _=>rfl,rfl,fun _=>⟨rfl,rfl,rfl⟩,rfl,rfl,rfl⟩
 simp only [e]; omega
theorem Ke.evict (k mem:Int) : ∀ n (s:CS),Ke s (s.evict k mem n):=by
 intro n
 induction n with
 | zero=>intro s; exact .refl s
 | succ n ih =>
  intro s
  simp only [CS.evict]
  split
  ·split
   ·exact .refl s
   ·split
    ·exact .refl s
    ·rename_i w id _ _ b _
     have h1:Ke s { s with worth:=ups2 s.worth k id none,clock:=ups s.clock k (max (s.clock k) (w.1 / w.2)) }:=⟨rfl,Int.le_refl _,fun _=>rfl,rfl,fun _=>⟨rfl,rfl,rfl⟩,rfl,rfl,rfl⟩
     exact (h1.trans (.kill _ b)).trans (ih _)
  ·exact .refl s
theorem Ke.room (s:CS) (mem:Int):Ke s (s.room mem).1:=by
 unfold CS.room
 split
 ·exact .refl s
 ·split
  ·exact .refl s
  ·exact .evict _ _ _ s
theorem Ke.unpin (s:CS) (f:Int) (b:Box):Ke s (s.unpin f b):=by
 unfold CS.unpin; split
 ·exact (Ke.setBox s _).trans (.idle _ _ _)
 ·exact .setBox s _
theorem Ke.pin (s:CS) (b:Box):Ke s (s.pin b):=(Ke.take s b).trans (.setBox _ _)
theorem Ke.pin1 {s s1:CS} {f:Int} (h:s.pin1 f=some s1):Ke s s1:=by
 unfold CS.pin1 at h
 cases hs:s.spare f with
 | some b =>
  simp only [hs,Option.some.injEq] at h
  subst h
  exact Ke.pin s b
 | none =>
  have h1:=Ke.room s (s.memOf f)
  cases hr:(s.room (s.memOf f)).2 with
  | none=>simp only [hs,hr] at h; cases h
  | some k =>
   simp only [hs,hr,Option.some.injEq] at h
   subst h
   exact (h1.trans (.start _ f k)).trans (.pin _ _)
theorem Ke.pins (f:Int) : ∀ n (s:CS),Ke s (CS.pins f n s):=by
 intro n
 induction n with
 | zero=>intro s; exact .refl s
 | succ n ih =>
  intro s
  simp only [CS.pins]
  cases h:s.pin1 f with
  | none=>exact .refl s
  | some s1=>exact (Ke.pin1 h).trans (ih s1)
theorem Ke.fold {α:Type} {g:CS→α→CS} (hg : ∀ s a,Ke s (g s a)) : ∀ (l:List α) (s:CS),Ke s (l.foldl g s)
 | [],s=>.refl s
 | a::r,s=>(hg s a).trans (Ke.fold hg r _)
theorem Ke.keep (s:CS) (f:Int):Ke s (s.keep f):=by
 unfold CS.keep
 exact (Ke.fold (fun s b=>Ke.unpin s f b) _ s).trans (.pins f _ _)
theorem Ke.keepAll (s:CS):Ke s s.keepAll:=by
 unfold CS.keepAll
 refine Ke.fold (fun s f=>?_) _ s
 split
 ·exact .keep s _
 ·exact .refl s
end
end Gh

namespace Go.Ab
open Go Gh
variable {P : Program} {F : Nums}
theorem upn_upn {α:Type} {g:Nat→α} {i:Nat} {x y:α}:upn (upn g i x) i y=upn g i y:=by
 funext j; unfold upn; split <;> rfl
theorem upn_s {α:Type} {g:Nat→α} {i:Nat} {x:α}:upn g i x i=x:=by simp [upn]
theorem upn_self {α:Type} {g:Nat→α} {i:Nat}:upn g i (g i)=g:=by
 funext j; unfold upn; split
 ·rename_i h; rw [h]
 ·rfl
theorem host_sweep_c (G:Good P F) {n:Nm} (ht:n.t≠0) (g:Nat→Mach) {h:Int} {H:AH} (hn:H.f n=some (.row 128 (rowOf 4 machC g))) (hb:0≤h∧h<32) :
  ACalls P F.host_sweep [.ptr n 0,i64 h] H (fun _ H'=>H'.f n=some (.row 128 (rowOf 4 machC (upn g h.toNat (CS.swept (g h.toNat)))))∧Fra (At n) H H'):=by
 refine fn_rule G.mixed G.host_sweep rfl [] (fun hcl=>?_)
 have b0:h.toNat*4<128:=by omega
 have b4:h.toNat*4+4≤128:=by omega
 have hnn:n≠⟨0,H.k,0⟩:=by intro e; rw [e] at ht; exact ht rfl
 simp only [go_sem,hn,hb.1,hb.2,b4]
 have hs : ∀ o,Fra (At n) H (AH.set ⟨H.f,H.k,[]⟩ ⟨0,H.k,0⟩ o):=fun o=>Fra.set Fra.mk1 (.inr fun ho=>by have:=ho rfl; simp at this)
 refine EI_i (fun hd=>?_) (fun hd=>?_)
 ·simp only [go_sem,hn,hb.1,hb.2,b4,hnn]
  refine EI_i (fun hu=>?_) (fun hu=>?_)
  ·simp only [go_sem,hn,hb.1,hb.2,b4,hnn]
   refine ⟨?_,((hs _).bmp).s1⟩
   rw [upd_mach]
   have hu:(g h.toNat).used=0:=by simpa using hu
   unfold CS.swept
   simp [hd,hu]
  ·simp only [go_sem,hn,hb.1,hb.2,b4,hnn]
   have hu:(g h.toNat).used≠0:=by simpa using hu
   refine ⟨?_,(hs _).bmp⟩
   unfold CS.swept
   rw [if_neg (by simp [hu]),upn_self]
 ·simp only [go_sem,hn,hb.1,hb.2,b4,hnn]
  refine ⟨?_,(hs _).bmp⟩
  unfold CS.swept
  rw [if_neg (by simp [hd]),upn_self]
theorem host_Give_c (G:Good P F) {n:Nm} (ht:n.t≠0) (s:CS) {h mem:Int} {H:AH} (hn:H.f n=some (.row 128 (rowOf 4 machC s.hosts))) (hw:WfH s.hosts) :
  ACalls P F.host_Give [.ptr n 0,i64 h,i64 mem] H (fun _ H'=>H'.f n=some (.row 128 (rowOf 4 machC (s.hGive h mem).hosts))∧Fra (At n) H H'):=by
 refine fn_rule G.mixed G.host_Give rfl [] (fun hcl=>?_)
 simp only [go_sem]
 refine CA_s [] (host_there_c G s hn) ?_
 rintro _ H1 ⟨rfl,h1⟩ _ _
 have h1:=h1.of_mk
 have hn1:=h1.some (old_of ht) hn
 simp only [go_sem,hn1]
 refine EI_i (fun hu=>?_) (fun hu=>?_)
 ·have hu:s.hThere h=false:=by simpa using hu
  simp only [go_sem,hn1]
  exact ⟨by unfold CS.hGive; rw [if_pos (by simp [hu])],h1.fra.mk'⟩
 have hu:s.hThere h=true:=by simpa using hu
 have hb:=(hThere_iff.1 hu).1
 have b3:h.toNat*4+3<128:=by omega
 simp only [go_sem,hn1]
 refine EI_i (fun hm=>?_) (fun hm=>?_)
 ·have hm:mem<0:=by simpa using hm
  simp only [go_sem,hn1]
  exact ⟨by unfold CS.hGive; rw [if_pos (by simp [hm])],h1.fra.mk'⟩
 have hm:0≤mem:=by simpa using hm
 simp only [go_sem,hn1,hb.1,hb.2,b3]
 refine EI_i (fun hf=>?_) (fun hf=>?_)
 ·have hf:(s.hosts h.toNat).used<mem:=by simpa using hf
  simp only [go_sem,hn1]
  exact ⟨by unfold CS.hGive; rw [if_pos (by simp [hf])],h1.fra.mk'⟩
 have hf:mem≤(s.hosts h.toNat).used:=by simpa using hf
 have hmb:=hw h.toNat
 unfold WMach at hmb
 have e:IntKind.i64.wrap ((s.hosts h.toNat).used-mem)=(s.hosts h.toNat).used-mem:=wrap64 (by omega) (by omega)
 simp only [go_sem,hn1,e,hb.1,hb.2,b3]
 rw [upd_mach3]
 refine CA_s [] (host_sweep_c G ht _ (by simp only [go_sem]; rfl) hb) ?_
 rintro _ H2 ⟨h2,h3⟩ _ _
 simp only [go_sem]
 refine ⟨?_,((h1.fra.mk' (s:=[])).s1.trans h3).mk'⟩
 rw [h2,upn_upn,upn_s]
 unfold CS.hGive
 rw [if_neg (by simp [hu]; omega)]
theorem host_Add_c (G:Good P F) {n:Nm} (ht:n.t≠0) (s:CS) {h size:Int} {H:AH} (hn:H.f n=some (.row 128 (rowOf 4 machC s.hosts))) :
  ACalls P F.host_Add [.ptr n 0,i64 h,i64 size] H (fun v H'=>v=i64 (s.hAdd h size).2∧H'.f n=some (.row 128 (rowOf 4 machC (s.hAdd h size).1.hosts))∧Fra (At n) H H'):=by
 refine fn_rule G.mixed G.host_Add rfl [] (fun hcl=>?_)
 have k1:(h<0∨h ≥ 32∨size<1∨size>4096) → ∀ v H',v=i64 1→H'.f n=H.f n→Fra (At n) H H'→v=i64 (s.hAdd h size).2∧H'.f n=some (.row 128 (rowOf 4 machC (s.hAdd h size).1.hosts))∧Fra (At n) H H':=by
  intro hc v H' hv hf hfr
  unfold CS.hAdd
  rw [if_pos hc]
  exact ⟨hv,by rw [hf,hn],hfr⟩
 simp only [go_sem]
 refine EI_i (fun c1=>?_) (fun c1=>?_)
 ·simp only [go_sem]
  exact k1 (by simp at c1; omega) _ ⟨H.f,H.k,[]⟩ rfl rfl Fra.mk1
 simp only [go_sem]
 refine EI_i (fun c2=>?_) (fun c2=>?_)
 ·simp only [go_sem]
  exact k1 (by simp at c2; omega) _ ⟨H.f,H.k,[]⟩ rfl rfl Fra.mk1
 simp only [go_sem]
 refine EI_i (fun c3=>?_) (fun c3=>?_)
 ·simp only [go_sem]
  exact k1 (by simp at c3; omega) _ ⟨H.f,H.k,[]⟩ rfl rfl Fra.mk1
 simp only [go_sem]
 refine EI_i (fun c4=>?_) (fun c4=>?_)
 ·simp only [go_sem]
  exact k1 (by simp at c4; omega) _ ⟨H.f,H.k,[]⟩ rfl rfl Fra.mk1
 simp only [decide_eq_false_iff_not,ge_iff_le,gt_iff_lt,Int.not_lt,Int.not_le] at c1 c2 c3 c4
 have b0:h.toNat*4<128:=by omega
 have b4:h.toNat*4+4≤128:=by omega
 have hng : ¬ (h<0∨h ≥ 32∨size<1∨size>4096):=by omega
 simp only [go_sem,hn,c1,c2,b0]
 refine EI_i (fun hd=>?_) (fun hd=>?_)
 ·simp only [go_sem]
  unfold CS.hAdd
  rw [if_neg hng,if_pos hd]
  exact ⟨rfl,hn,Fra.mk1⟩
 ·simp only [go_sem,hn,c1,c2,b0,b4]
  refine ⟨?_,?_,(Fra.mk1).s1⟩
  ·unfold CS.hAdd; rw [if_neg hng,if_neg (by simp [hd])]
  ·rw [upd_mach]; unfold CS.hAdd; rw [if_neg hng,if_neg (by simp [hd])]
theorem host_Drain_c (G:Good P F) {n:Nm} (ht:n.t≠0) (s:CS) {h:Int} {H:AH} (hn:H.f n=some (.row 128 (rowOf 4 machC s.hosts))) :
  ACalls P F.host_Drain [.ptr n 0,i64 h] H (fun v H'=>v=i64 (s.hDrain h).2∧H'.f n=some (.row 128 (rowOf 4 machC (s.hDrain h).1.hosts))∧Fra (At n) H H'):=by
 refine fn_rule G.mixed G.host_Drain rfl [] (fun hcl=>?_)
 simp only [go_sem]
 refine CA_s [] (host_there_c G s hn) ?_
 rintro _ H1 ⟨rfl,h1⟩ _ _
 have h1:=h1.of_mk
 have hn1:=h1.some (old_of ht) hn
 simp only [go_sem,hn1]
 unfold CS.hDrain
 refine EI_i (fun hu=>?_) (fun hu=>?_)
 ·simp only [go_sem,hn1]
  rw [if_pos hu]
  exact ⟨rfl,rfl,h1.fra.mk'⟩
 rw [if_neg (by simp [hu])]
 have hu:s.hThere h=true:=by simpa using hu
 have hb:=(hThere_iff.1 hu).1
 have b1:h.toNat*4+1<128:=by omega
 simp only [go_sem,hn1,hb.1,hb.2,b1]
 refine EI_i (fun hd=>?_) (fun hd=>?_)
 ·simp only [go_sem]
  rw [if_pos hd]
  exact ⟨rfl,hn1,h1.fra.mk'⟩
 rw [if_neg (by simp [hd])]
 simp only [go_sem,hn1,hb.1,hb.2,b1]
 rw [upd_mach1]
 refine CA_s [] (host_sweep_c G ht _ (by simp only [go_sem]; rfl) hb) ?_
 rintro _ H2 ⟨h2,h3⟩ _ _
 simp only [go_sem]
 refine ⟨?_,((h1.fra.mk' (s:=[])).s1.trans h3).mk'⟩
 rw [h2,upn_upn,upn_s]
theorem host_Fail_c (G:Good P F) {n:Nm} (ht:n.t≠0) (s:CS) {h:Int} {H:AH} (hn:H.f n=some (.row 128 (rowOf 4 machC s.hosts))) :
  ACalls P F.host_Fail [.ptr n 0,i64 h] H (fun _ H'=>H'.f n=some (.row 128 (rowOf 4 machC (if s.hThere h then upn s.hosts h.toNat {} else s.hosts)))∧Fra (At n) H H'):=by
 refine fn_rule G.mixed G.host_Fail rfl [] (fun hcl=>?_)
 simp only [go_sem]
 refine CA_s [] (host_there_c G s hn) ?_
 rintro _ H1 ⟨rfl,h1⟩ _ _
 have h1:=h1.of_mk
 have hn1:=h1.some (old_of ht) hn
 simp only [go_sem,hn1]
 refine EI_i (fun hu=>?_) (fun hu=>?_)
 ·simp only [go_sem,hn1]
  rw [if_neg (by simpa using hu)]
  exact ⟨rfl,h1.fra.mk'⟩
 have hu:s.hThere h=true:=by simpa using hu
 have hb:=(hThere_iff.1 hu).1
 have b4:h.toNat*4+4≤128:=by omega
 simp only [go_sem,hn1,hb.1,hb.2,b4]
 refine ⟨?_,(h1.fra.mk').s1⟩
 rw [upd_mach,if_pos hu]
theorem host_New_c (G:Good P F) {n:Nm} {H:AH} (ht:n.t≠0) (hn:H.f n=none) :
  ACalls P F.host_New [] H (fun v H'=>v=.ptr n 0∧H'.f n=some (.row 128 (rowOf 4 machC fun _=>{}))∧Fra (At n) H H'):=by
 refine ACalls.post (K':=fun v H'=>v=.ptr n 0∧H'.f n=some (.row 128 (cs (List.replicate 32 [AV.bool false,AV.bool false,AV.int IntKind.i64 0,AV.int IntKind.i64 0]).flatten))∧Fra (At n) H H') ?_ ?_
 ·refine fn_rule G.mixed G.host_New rfl [n] (fun hcl=>?_)
  simp only [go_sem,hn]
  exact ⟨all_rep rfl 32,ht,by rw [len_rep]; rfl,(Fra.mk1.s1).bmp⟩
 ·rintro v H' ⟨rfl,h1,h2⟩ _ _
  refine ⟨_,Wk.row h1 (Nat.le_refl _) (g':=rowOf 4 machC fun _=>{}) ?_,rfl,by simp only [go_sem],h2.s1⟩
  intro i hi
  unfold rowOf cs
  rw [getD_rep (c:=[AV.bool false,AV.bool false,AV.int IntKind.i64 0,AV.int IntKind.i64 0]) (by simp) 32 i hi]
  rfl
theorem host_Fit_c (G:Good P F) {n:Nm} (ht:n.t≠0) (s:CS) {mem:Int} {H:AH} (hn:H.f n=some (.row 128 (rowOf 4 machC s.hosts))) (hw:WfH s.hosts) :
  ACalls P F.host_Fit [.ptr n 0,i64 mem] H (fun v H'=>(∃ w,v=.tup [i64 w,.bool (s.fit mem).isSome] ∧ ∀ h,s.fit mem=some h→w=h)∧Same H H'):=by
 refine fn_rule G.mixed G.host_Fit rfl [] (fun hcl=>?_)
 simp only [go_sem]
 refine C_loop (fun k l H' => ∃ i:Nat,i+k=32∧Same H H'∧l=[(0,.ptr n 0),(1,i64 mem),(6,i64 ((s.fitN mem i).getD (-1))),(8,i64 i)]) 32 ⟨0,rfl,Same.mk1,rfl⟩ ?_
 rintro k _ H1 ⟨i,hi,h1,rfl⟩ _ _
 refine ⟨[],?_⟩
 have hn1:=h1.some (old_of ht) hn
 simp only [go_sem]
 refine EI_i (fun c1=>?_) (fun c1=>?_)
 ·have c1:i<32:=by simp at c1; omega
  have fin : ∀ (H':AH) (b:Int),Same H H'→b=(s.fitN mem (i+1)).getD (-1) → ∃ n' l'',fr [(0,.ptr n 0),(1,i64 mem),(6,i64 b),(8,.int .i64 (IntKind.i64.wrap (i+1)))]=fr l''∧n'<k ∧
    ∃ j:Nat,j+n'=32∧Same H H'∧l''=[(0,.ptr n 0),(1,i64 mem),(6,i64 ((s.fitN mem j).getD (-1))),(8,i64 j)]:=by
   intro H' b hs hb
   refine ⟨k-1,_,rfl,by omega,i+1,by omega,hs,?_⟩
   rw [hb,wrapS (by omega)]
  have no : ∀ x,(s.up i&&decide (0≤mem)&&decide (mem≤s.free i))=false→s.fitN mem i=x→(s.fitN mem (i+1))=x:=by
   intro x hc hx
   simp only [CS.fitN,hx]
   cases x with
   | none=>simp only [hc,Bool.false_eq_true,if_false]
   | some b=>simp only [hc,Bool.false_and,Bool.false_eq_true,if_false]
  simp only [go_sem]
  refine CA_s [] (host_Up_c G ht s hn1) ?_
  rintro _ H2 ⟨rfl,h2⟩ _ _
  have h2:=h1.trans h2.of_mk
  have hn2:=h2.some (old_of ht) hn
  simp only [go_sem]
  refine EI_i (fun hu=>?_) (fun hu=>?_)
  rotate_left
  ·simp only [go_sem]
   exact fin ⟨H2.f,H2.k,[]⟩ _ h2.mk' (by rw [no _ (by simp [hu]) rfl])
  simp only [go_sem]
  refine EI_i (fun hm=>?_) (fun hm=>?_)
  rotate_left
  ·simp only [go_sem]
   have hm : ¬ 0≤mem:=by simpa using hm
   exact fin ⟨H2.f,H2.k,[]⟩ _ h2.mk' (by rw [no _ (by simp [hm]) rfl])
  have hm:0≤mem:=by simpa using hm
  simp only [go_sem]
  refine CA_s [] (host_Free_c G ht s hn2 hw) ?_
  rintro _ H3 ⟨rfl,h3⟩ _ _
  have h3:=h2.trans h3.of_mk
  have hn3:=h3.some (old_of ht) hn
  simp only [go_sem]
  refine EI_i (fun hf=>?_) (fun hf=>?_)
  rotate_left
  ·simp only [go_sem]
   have hf : ¬ mem≤s.free i:=by simpa using hf
   exact fin ⟨H3.f,H3.k,[]⟩ _ h3.mk' (by rw [no _ (by simp [hf]) rfl])
  have hf:mem≤s.free i:=by simpa using hf
  have yes:(s.up i&&decide (0≤mem)&&decide (mem≤s.free i))=true:=by simp [hu,hm,hf]
  simp only [go_sem]
  refine EI_i (fun hb=>?_) (fun hb=>?_)
  ·simp only [go_sem]
   have hb:(s.fitN mem i).getD (-1)<0:=by simpa using hb
   have hnone:s.fitN mem i=none:=by
    cases hx:s.fitN mem i with
    | none=>rfl
    | some b=>have:=(fitN_bd i hx).1; rw [hx] at hb; simp at hb; omega
   refine fin ⟨H3.f,H3.k,[]⟩ _ h3.mk' ?_
   simp only [CS.fitN,hnone,yes,if_true,Option.getD_some]
  have hb : ¬ (s.fitN mem i).getD (-1)<0:=by simpa using hb
  obtain ⟨b,hx⟩ : ∃ b,s.fitN mem i=some b:=by
   cases hx:s.fitN mem i with
   | none=>rw [hx] at hb; simp at hb
   | some b=>exact ⟨b,rfl⟩
  simp only [go_sem]
  refine CA_s [] (host_Free_c G ht s hn3 hw) ?_
  rintro _ H4 ⟨rfl,h4⟩ _ _
  have h4:=h3.trans h4.of_mk
  have hn4:=h4.some (old_of ht) hn
  simp only [go_sem]
  refine CA_s [] (host_Free_c G ht s hn4 hw) ?_
  rintro _ H5 ⟨rfl,h5⟩ _ _
  have h5:=h4.trans h5.of_mk
  simp only [go_sem]
  refine EI_i (fun hl=>?_) (fun hl=>?_)
  ·simp only [go_sem]
   refine fin ⟨H5.f,H5.k,[]⟩ _ h5.mk' ?_
   simp only [hx,Option.getD_some] at hl
   simp only [CS.fitN,hx,yes,hl,Bool.and_self,if_true,Option.getD_some]
  ·simp only [go_sem]
   refine fin ⟨H5.f,H5.k,[]⟩ _ h5.mk' ?_
   simp only [hx,Option.getD_some] at hl
   simp only [CS.fitN,hx,hl,Bool.and_false,Bool.false_eq_true,if_false]
 ·have c1:i=32:=by simp at c1; omega
  subst c1
  simp only [go_sem]
  refine ⟨⟨max ((s.fitN mem 32).getD (-1)) 0,?_,?_⟩,h1.mk'⟩
  ·have e:decide ((s.fitN mem 32).getD (-1) ≥ 0)=(s.fit mem).isSome:=by
    cases hx:s.fitN mem 32 with
    | none=>unfold CS.fit; rw [hx]; rfl
    | some b=>have:=(fitN_bd 32 hx).1; unfold CS.fit; rw [hx]; simp; omega
   rw [e]
  ·intro h hh
   have:=(fit_bd hh).1
   unfold CS.fit at hh
   rw [hh]
   simp; omega
end Go.Ab

namespace Go.Ab
open Go Gh
variable {P : Program} {F : Nums}
theorem ledG_q {acc:Nat→Acc} {qf:Nat→QF} {i j:Nat} (hj:j<4):ledG acc qf (32+i*4+j)=(qfC (qf i)).getD j .any:=by
 unfold ledG
 rw [if_neg (by omega),show 32+i*4+j-32=i*4+j by omega,rowOf_at hj]
theorem ledG_q0 {acc:Nat→Acc} {qf:Nat→QF} {i:Nat}:ledG acc qf (32+i*4)=.bool (qf i).there:=ledG_q (j:=0) (by decide)
theorem ledG_a {acc:Nat→Acc} {qf:Nat→QF} {i j:Nat} (hj:j<2) (hi:i<16):ledG acc qf (i*2+j)=(accC (acc i)).getD j .any:=by
 unfold ledG
 rw [if_pos (by omega),rowOf_at hj]
theorem ledG_a0 {acc:Nat→Acc} {qf:Nat→QF} {i:Nat} (hi:i<16):ledG acc qf (i*2)=.bool (acc i).there:=ledG_a (j:=0) (by decide) hi
def qfL (qf:Nat→QF):List AV:=(List.range 256).map fun j=>rowOf 4 qfC qf j
theorem qfL_len {qf:Nat→QF}:(qfL qf).length=256:=by simp [qfL]
theorem qfL_at {qf:Nat→QF} {i:Nat} (hi:i<64):((qfL qf).drop (i*4)).take 4=qfC (qf i):=by
 apply List.ext_getElem
 ·simp [qfL_len]; omega
 ·intro k h1 h2
  simp only [List.length_cons,List.length_nil] at h2
  simp only [List.getElem_take,List.getElem_drop,qfL,List.getElem_map,List.getElem_range]
  rw [rowOf_at (by omega)]
  have:k=0∨k=1∨k=2∨k=3:=by omega
  rcases this with rfl | rfl | rfl | rfl <;> rfl
theorem led_copyN {acc:Nat→Acc} {qf:Nat→QF} (n:Nat) (h:32+n≤288):rdNO (some (.row 288 (ledG acc qf))) 32 n=some ((List.range n).map fun j=>rowOf 4 qfC qf j):=by
 unfold rdNO
 simp only [h,if_true]
 refine congrArg some (List.map_congr_left fun j hj=>?_)
 unfold ledG
 rw [if_neg (by omega),show 32+j-32=j by omega]
theorem led_copy {acc:Nat→Acc} {qf:Nat→QF}:rdNO (some (.row 288 (ledG acc qf))) 32 256=some (qfL qf):=led_copyN 256 (by omega)
theorem sums_le {s:CS} (hw:WfQ s.acc s.qf s.fns) (a:Int) : ∀ i:Nat,(0≤(s.sums a i).1∧(s.sums a i).1≤1000*i)∧(0≤(s.sums a i).2.1∧(s.sums a i).2.1≤1000*i)∧(0≤(s.sums a i).2.2∧(s.sums a i).2.2≤1000*i)
 | 0=>by simp [CS.sums]
 | i+1=>by
  have ih:=sums_le hw a i
  have hq:=hw.lq i
  simp only [CS.sums]
  split
  ·omega
  ·simp only
   split <;> omega
theorem quota_known_c (G:Good P F) {n:Nm} (s:CS) {f:Int} {H:AH} (hn:H.f n=some (.row 288 (ledG s.acc s.qf))) :
  ACalls P F.quota_known [.ptr n 0,i64 f] H (fun v H'=>v=.bool (s.known f)∧Same H H'):=by
 refine fn_rule G.mixed G.quota_known rfl [] (fun hcl=>?_)
 simp only [go_sem]
 refine EI_i (fun h1=>?_) (fun h1=>?_)
 rotate_left
 ·simp only [go_sem]
  have h1 : ¬ 0≤f:=by simpa using h1
  exact ⟨by simp [CS.known,h1],Same.mk1⟩
 have h1:0≤f:=by simpa using h1
 simp only [go_sem]
 refine EI_i (fun h2=>?_) (fun h2=>?_)
 rotate_left
 ·simp only [go_sem]
  have h2 : ¬ f<64:=by simpa using h2
  exact ⟨by simp [CS.known,h2],Same.mk1⟩
 have h2:f<64:=by simpa using h2
 have b0:32+f.toNat*4<288:=by omega
 simp only [go_sem,hn,h1,h2,b0,ledG_q0]
 exact ⟨by simp [CS.known,h1,h2],Same.mk1⟩
theorem known_iff {s:CS} {f:Int}:s.known f=true↔(0≤f∧f<64)∧(s.qf f.toNat).there=true:=by
 unfold CS.known; simp [and_assoc]
theorem quota_sums_c (G:Good P F) {n:Nm} (ht:n.t≠0) (s:CS) {a:Int} {H:AH} (hn:H.f n=some (.row 288 (ledG s.acc s.qf))) (hw:WfQ s.acc s.qf s.fns) :
  ACalls P F.quota_sums [.ptr n 0,i64 a] H (fun v H'=>v=.tup [i64 (s.sums a 64).1,i64 (s.sums a 64).2.1,i64 (s.sums a 64).2.2]∧Same H H'):=by
 refine fn_rule G.mixed G.quota_sums rfl [] (fun hcl=>?_)
 simp only [go_sem,hn,led_copy]
 refine C_loop (fun k l H' => ∃ i:Nat,i+k=64∧Same H H'∧l=[(1,i64 a),(7,i64 (s.sums a i).1),(8,i64 (s.sums a i).2.1),(9,i64 (s.sums a i).2.2),(15,.agg (qfL s.qf)),(16,i64 i)]) 64 ⟨0,rfl,Same.mk1,rfl⟩ ?_
 rintro k _ H1 ⟨i,hi,h1,rfl⟩ _ hcl1
 refine ⟨[],?_⟩
 have hn1:=h1.some (old_of ht) hn
 simp only [go_sem]
 refine EI_i (fun c1=>?_) (fun c1=>?_)
 ·have c1:i<64:=by simp at c1; omega
  have c0:(0:Int)≤(i:Int):=by omega
  have c2:(i:Int)<64:=by omega
  have hs:=sums_le hw a i
  have hq:=hw.lq i
  have e1:IntKind.i64.wrap ((s.sums a i).1+(s.qf i).reserved)=(s.sums a i).1+(s.qf i).reserved:=wrap64 (by omega) (by omega)
  have e2:IntKind.i64.wrap ((s.sums a i).2.1+(s.qf i).busy)=(s.sums a i).2.1+(s.qf i).busy:=wrap64 (by omega) (by omega)
  have e3:IntKind.i64.wrap ((s.sums a i).2.2+(s.qf i).busy)=(s.sums a i).2.2+(s.qf i).busy:=wrap64 (by omega) (by omega)
  have fin : ∀ (H':AH) (x y z:Int),Same H H'→s.sums a (i+1)=(x,y,z) → ∃ n' l'',fr [(1,i64 a),(7,i64 x),(8,i64 y),(9,i64 z),(15,.agg (qfL s.qf)),(16,.int .i64 (IntKind.i64.wrap (i+1)))]=fr l''∧n'<k ∧
    ∃ j:Nat,j+n'=64∧Same H H'∧l''=[(1,i64 a),(7,i64 (s.sums a j).1),(8,i64 (s.sums a j).2.1),(9,i64 (s.sums a j).2.2),(15,.agg (qfL s.qf)),(16,i64 j)]:=by
   intro H' x y z h2 h3
   refine ⟨k-1,_,rfl,by omega,i+1,by omega,h2,?_⟩
   rw [h3,wrapS (by omega)]
  have ht1 : ∀ o,Same H (bmp 1 (AH.set ⟨H1.f,H1.k,[]⟩ ⟨0,H1.k,0⟩ o)):=fun o=>h1.tmp.bmp
  simp only [go_sem,c0,c2,qfL_len,Int.toNat_natCast,qfL_at c1]
  refine EI_i (fun d1=>?_) (fun d1=>?_)
  ·simp only [go_sem]
   refine fin _ _ _ _ (ht1 _) ?_
   simp only [CS.sums,d1,Bool.true_or,if_true]
  have d1:(s.qf i).there=true:=by simpa using d1
  simp only [go_sem]
  refine EI_i (fun d2=>?_) (fun d2=>?_)
  ·simp only [go_sem]
   refine fin _ _ _ _ (ht1 _) ?_
   simp only [CS.sums,d2,Bool.or_true,if_true]
  have d2:(s.qf i).account=a:=by simpa using d2
  simp only [go_sem,e1,e2]
  refine EI_i (fun d3=>?_) (fun d3=>?_)
  ·simp only [go_sem,e3]
   refine fin _ _ _ _ (ht1 _) ?_
   have d3:(s.qf i).reserved=0:=by simpa using d3
   simp [CS.sums,d1,d2,d3]
  ·simp only [go_sem,e3]
   refine fin _ _ _ _ (ht1 _) ?_
   have d3:(s.qf i).reserved≠0:=by simpa using d3
   simp [CS.sums,d1,d2,d3]
 ·have c1:i=64:=by simp at c1; omega
  subst c1
  simp only [go_sem]
  exact h1.mk'
theorem quota_Busy_c (G:Good P F) {n:Nm} (ht:n.t≠0) (s:CS) {f:Int} {H:AH} (hn:H.f n=some (.row 288 (ledG s.acc s.qf))) :
  ACalls P F.quota_Busy [.ptr n 0,i64 f] H (fun v H'=>v=i64 (s.busy f)∧Same H H'):=by
 refine fn_rule G.mixed G.quota_Busy rfl [] (fun hcl=>?_)
 simp only [go_sem]
 refine CA_s [] (quota_known_c G s hn) ?_
 rintro _ H1 ⟨rfl,h1⟩ _ _
 have h1:=h1.of_mk
 have hn1:=h1.some (old_of ht) hn
 simp only [go_sem]
 refine EI_i (fun hk=>?_) (fun hk=>?_)
 ·have hk:s.known f=false:=by simpa using hk
  simp only [go_sem]
  exact ⟨by simp [CS.busy,hk],h1.mk'⟩
 have hk:s.known f=true:=by simpa using hk
 have hb:=(known_iff.1 hk).1
 have b3:32+f.toNat*4+3<288:=by omega
 simp only [go_sem,hn1,hb.1,hb.2,b3,ledG_q (show 3<4 by decide)]
 exact ⟨by simp [CS.busy,hk],h1.mk'⟩
def askV (o:Option Int):AV:=.tup [i64 (o.getD 0),.bool o.isSome]
theorem quota_Ask_c (G:Good P F) {n:Nm} (ht:n.t≠0) (s:CS) {f:Int} {H:AH} (hn:H.f n=some (.row 288 (ledG s.acc s.qf))) (hw:WfQ s.acc s.qf s.fns) :
  ACalls P F.quota_Ask [.ptr n 0,i64 f] H (fun v H'=>v=askV (s.ask f)∧Same H H'):=by
 refine fn_rule G.mixed G.quota_Ask rfl [] (fun hcl=>?_)
 simp only [go_sem]
 refine CA_s [] (quota_known_c G s hn) ?_
 rintro _ H1 ⟨rfl,h1⟩ _ hcl1
 have h1:=h1.of_mk
 have hn1:=h1.some (old_of ht) hn
 simp only [go_sem]
 refine EI_i (fun hk=>?_) (fun hk=>?_)
 ·have hk:s.known f=false:=by simpa using hk
  simp only [go_sem]
  exact ⟨by simp [CS.ask,hk,askV],h1.mk'⟩
 have hk:s.known f=true:=by simpa using hk
 have hb:=(known_iff.1 hk).1
 have b4:32+f.toNat*4+4≤288:=by omega
 have hq:=hw.lq f.toNat
 have hss:=sums_le hw (s.qf f.toNat).account 64
 have hnn:n≠⟨0,H1.k,0⟩:=by intro e; rw [e] at ht; exact ht rfl
 have ba:(s.qf f.toNat).account.toNat*2+1<288:=by omega
 have ba16:(s.qf f.toNat).account.toNat<16:=by omega
 simp only [go_sem,hn1,hb.1,hb.2,b4,ledG_q0,ledG_q (show 1<4 by decide),ledG_q (show 2<4 by decide),ledG_q (show 3<4 by decide),hnn,hq.1.1,hq.1.2,ba,ledG_a (show 1<2 by decide) ba16]
 refine CA_s [] (quota_sums_c G ht s (by simp only [go_sem,hnn,hn1]) hw) ?_
 rintro _ H2 ⟨rfl,h2⟩ hk2 hcl2
 have h2':Same H H2:=(h1.tmp.bmp).trans h2
 have ho : ∀ o,old (bmp 1 (AH.set ⟨H1.f,H1.k,[]⟩ ⟨0,H1.k,0⟩ o)) ⟨0,H1.k,0⟩:=fun o _=>by show H1.k<H1.k+1; omega
 have e6:=h2.at_ _ (ho _)
 simp only [go_sem] at e6
 generalize hp:s.sums (s.qf f.toNat).account 64=p at hss ⊢
 have e1:IntKind.i64.wrap ((s.acc (s.qf f.toNat).account.toNat).limit-p.1)=(s.acc (s.qf f.toNat).account.toNat).limit-p.1:=by
  have:=hw.la (s.qf f.toNat).account.toNat
  exact wrap64 (by omega) (by omega)
 have ek : ∀ o,s.ask f=o↔(if (s.qf f.toNat).reserved>0∧(s.qf f.toNat).busy ≥ (s.qf f.toNat).reserved then some 1
   else if p.2.1 ≥ (s.acc (s.qf f.toNat).account.toNat).limit∨((s.qf f.toNat).reserved=0∧p.2.2 ≥ (s.acc (s.qf f.toNat).account.toNat).limit-p.1) then some 2 else some 0)=o:=by
  intro o
  unfold CS.ask
  rw [hk]
  simp only [Bool.not_true,Bool.false_eq_true,if_false,hp]
 simp only [go_sem,e6]
 have fin : ∀ (H':AH) (o:Int),Same H H'→s.ask f=some o→AV.tup [i64 o,.bool true]=askV (s.ask f)∧Same H H':=by
  intro H' o hs ho
  exact ⟨by rw [ho]; rfl,hs⟩
 refine EI_i (fun d1=>?_) (fun d1=>?_)
 ·have d1:0<(s.qf f.toNat).reserved:=by simpa using d1
  simp only [go_sem,e6]
  refine EI_i (fun d2=>?_) (fun d2=>?_)
  ·have d2:(s.qf f.toNat).reserved≤(s.qf f.toNat).busy:=by simpa using d2
   simp only [go_sem,e6]
   exact fin ⟨H2.f,H2.k,[]⟩ 1 h2'.mk' ((ek _).2 (by rw [if_pos ⟨d1,d2⟩]))
  have d2 : ¬ (s.qf f.toNat).reserved≤(s.qf f.toNat).busy:=by simpa using d2
  have dn : ¬ ((s.qf f.toNat).reserved>0∧(s.qf f.toNat).busy ≥ (s.qf f.toNat).reserved):=by omega
  simp only [go_sem,e6]
  refine EI_i (fun d3'=>?_) (fun d3'=>?_)
  ·have d3:(s.acc (s.qf f.toNat).account.toNat).limit≤p.2.1:=by simpa using d3'
   simp only [go_sem,e6,d3']
   exact fin ⟨H2.f,H2.k,[]⟩ 2 h2'.mk' ((ek _).2 (by rw [if_neg dn,if_pos (.inl d3)]))
  have d3 : ¬ (s.acc (s.qf f.toNat).account.toNat).limit≤p.2.1:=by simpa using d3'
  simp only [go_sem,e6]
  refine EI_i (fun d4=>?_) (fun d4=>?_)
  ·have d4:(s.qf f.toNat).reserved=0:=by simpa using d4
   omega
  simp only [go_sem,e6]
  exact fin ⟨H2.f,H2.k,[]⟩ 0 h2'.mk' ((ek _).2 (by rw [if_neg dn,if_neg (by omega)]))
 ·have d1 : ¬ 0<(s.qf f.toNat).reserved:=by simpa using d1
  have dn : ¬ ((s.qf f.toNat).reserved>0∧(s.qf f.toNat).busy ≥ (s.qf f.toNat).reserved):=by omega
  simp only [go_sem,e6]
  refine EI_i (fun d3'=>?_) (fun d3'=>?_)
  ·have d3:(s.acc (s.qf f.toNat).account.toNat).limit≤p.2.1:=by simpa using d3'
   simp only [go_sem,e6,d3']
   exact fin ⟨H2.f,H2.k,[]⟩ 2 h2'.mk' ((ek _).2 (by rw [if_neg dn,if_pos (.inl d3)]))
  have d3 : ¬ (s.acc (s.qf f.toNat).account.toNat).limit≤p.2.1:=by simpa using d3'
  simp only [go_sem,e6]
  refine EI_i (fun d4=>?_) (fun d4=>?_)
  ·have d4:(s.qf f.toNat).reserved=0:=by simpa using d4
   simp only [go_sem,e6,e1]
   refine EI_i (fun d5=>?_) (fun d5=>?_)
   ·have d5:(s.acc (s.qf f.toNat).account.toNat).limit-p.1≤p.2.2:=by simpa using d5
    simp only [go_sem]
    exact fin ⟨H2.f,H2.k,[]⟩ 2 h2'.mk' ((ek _).2 (by rw [if_neg dn,if_pos (.inr ⟨d4,d5⟩)]))
   have d5 : ¬ (s.acc (s.qf f.toNat).account.toNat).limit-p.1≤p.2.2:=by simpa using d5
   simp only [go_sem,e6]
   exact fin ⟨H2.f,H2.k,[]⟩ 0 h2'.mk' ((ek _).2 (by rw [if_neg dn,if_neg (by omega)]))
  have d4:(s.qf f.toNat).reserved≠0:=by simpa using d4
  simp only [go_sem,e6]
  exact fin ⟨H2.f,H2.k,[]⟩ 0 h2'.mk' ((ek _).2 (by rw [if_neg dn,if_neg (by omega)]))
end Go.Ab

namespace Go.Ab
open Go Gh
variable {P : Program} {F : Nums}
theorem upd_led {acc:Nat→Acc} {qf:Nat→QF} {i j:Nat} {v:AV} {x:QF} (hj:j<4) (hx : ∀ k,k<4→(qfC x).getD k .any=if k=j then v else (qfC (qf i)).getD k .any) :
  upd (ledG acc qf) (32+i*4+j) v=ledG acc (upn qf i x):=by
 funext k
 unfold upd
 by_cases hk:k=32+i*4+j
 ·subst hk
  simp only [beq_self_eq_true,cond_true]
  rw [ledG_q hj,upn_s,hx j hj,if_pos rfl]
 ·have hb:(k==32+i*4+j)=false:=by simpa using hk
  rw [hb,cond_false]
  by_cases h32:k<32
  ·unfold ledG; rw [if_pos h32,if_pos h32]
  ·have e:k=32+(k-32) / 4*4+(k-32) % 4:=by omega
   rw [e,ledG_q (by omega),ledG_q (by omega)]
   by_cases hi:(k-32) / 4=i
   ·rw [hi,upn_s,hx _ (by omega),if_neg (by omega)]
   ·unfold upn; rw [if_neg hi]
theorem upd_led0 {acc:Nat→Acc} {qf:Nat→QF} {i:Nat} {v:Bool}:upd (ledG acc qf) (32+i*4) (.bool v)=ledG acc (upn qf i { qf i with there:=v }) :=
 upd_led (j:=0) (by decide) fun k hk=>by
  have:k=0∨k=1∨k=2∨k=3:=by omega
  rcases this with rfl | rfl | rfl | rfl <;> rfl
theorem upd_led1 {acc:Nat→Acc} {qf:Nat→QF} {i:Nat} {v:Int}:upd (ledG acc qf) (32+i*4+1) (i64 v)=ledG acc (upn qf i { qf i with account:=v }) :=
 upd_led (by decide) fun k hk=>by
  have:k=0∨k=1∨k=2∨k=3:=by omega
  rcases this with rfl | rfl | rfl | rfl <;> rfl
theorem upd_led2 {acc:Nat→Acc} {qf:Nat→QF} {i:Nat} {v:Int}:upd (ledG acc qf) (32+i*4+2) (i64 v)=ledG acc (upn qf i { qf i with reserved:=v }) :=
 upd_led (by decide) fun k hk=>by
  have:k=0∨k=1∨k=2∨k=3:=by omega
  rcases this with rfl | rfl | rfl | rfl <;> rfl
theorem upd_led3 {acc:Nat→Acc} {qf:Nat→QF} {i:Nat} {v:Int}:upd (ledG acc qf) (32+i*4+3) (i64 v)=ledG acc (upn qf i { qf i with busy:=v }) :=
 upd_led (by decide) fun k hk=>by
  have:k=0∨k=1∨k=2∨k=3:=by omega
  rcases this with rfl | rfl | rfl | rfl <;> rfl
theorem upd_leda {acc:Nat→Acc} {qf:Nat→QF} {i:Nat} {b:Bool} {v:Int} (hi:i<16):updN (ledG acc qf) (i*2) [.bool b,i64 v]=ledG (upn acc i ⟨b,v⟩) qf:=by
 funext k
 rw [updN_at]
 simp only [List.length_cons,List.length_nil]
 by_cases h32:k<32
 ·have e:k=k / 2*2+k % 2:=by omega
  have hm:k % 2=0∨k % 2=1:=by omega
  unfold ledG
  rw [if_pos h32,if_pos h32]
  by_cases hi2:k / 2=i
  ·rw [if_pos (by omega)]
   conv=>rhs; rw [e,rowOf_at (by omega),hi2,upn_s]
   rcases hm with h | h
   ·rw [h,show k-i*2=0 by omega]
   ·rw [h,show k-i*2=1 by omega]
  ·rw [if_neg (by omega)]
   conv=>rhs; rw [e,rowOf_at (by omega)]
   conv=>lhs; rw [e,rowOf_at (by omega)]
   unfold upn; rw [if_neg hi2]
 ·rw [if_neg (by omega)]
  unfold ledG
  rw [if_neg h32,if_neg h32]
theorem quota_Begin_c (G:Good P F) {n:Nm} (ht:n.t≠0) (s:CS) {f:Int} {H:AH} (hn:H.f n=some (.row 288 (ledG s.acc s.qf))) (hw:WfQ s.acc s.qf s.fns) :
  ACalls P F.quota_Begin [.ptr n 0,i64 f] H (fun _ H'=>H'.f n=some (.row 288 (ledG (s.qBegin f).acc (s.qBegin f).qf))∧Fra (At n) H H'):=by
 refine fn_rule G.mixed G.quota_Begin rfl [] (fun hcl=>?_)
 simp only [go_sem]
 refine CA_s [] (quota_Ask_c G ht s hn hw) ?_
 rintro _ H1 ⟨rfl,h1⟩ _ _
 have h1:=h1.of_mk
 have hn1:=h1.some (old_of ht) hn
 have no:s.ask f≠some 0→s.qBegin f=s:=fun h=>by unfold CS.qBegin; rw [if_neg h]
 unfold askV
 simp only [go_sem]
 refine EI_i (fun d1=>?_) (fun d1=>?_)
 ·have d1:(s.ask f).isSome=false:=by simpa using d1
  simp only [go_sem,hn1]
  rw [no (by intro e; rw [e] at d1; cases d1)]
  exact ⟨rfl,h1.fra.mk'⟩
 have d1:(s.ask f).isSome=true:=by simpa using d1
 obtain ⟨w,hw1⟩:=Option.isSome_iff_exists.1 d1
 rw [hw1]
 simp only [go_sem,Option.getD_some]
 refine EI_i (fun d2=>?_) (fun d2=>?_)
 ·have d2:w≠0:=by simpa using d2
  simp only [go_sem,hn1]
  rw [no (by rw [hw1]; simpa using d2)]
  exact ⟨rfl,h1.fra.mk'⟩
 have d2:w=0:=by simpa using d2
 subst d2
 have hk:s.known f=true:=by
  unfold CS.ask at hw1
  cases h:s.known f with
  | true=>rfl
  | false=>rw [h] at hw1; simp at hw1
 have hb:=(known_iff.1 hk).1
 have b3:32+f.toNat*4+3<288:=by omega
 have hq:=hw.lq f.toNat
 have e:IntKind.i64.wrap ((s.qf f.toNat).busy+1)=(s.qf f.toNat).busy+1:=wrap64 (by omega) (by omega)
 simp only [go_sem,hn1,hb.1,hb.2,b3,ledG_q (show 3<4 by decide),e]
 refine ⟨?_,h1.fra.mk'.s1⟩
 have:=upd_led3 (acc:=s.acc) (qf:=s.qf) (i:=f.toNat) (v:=(s.qf f.toNat).busy+1)
 rw [this]
 unfold CS.qBegin
 rw [if_pos hw1]
theorem quota_End_c (G:Good P F) {n:Nm} (ht:n.t≠0) (s:CS) {f:Int} {H:AH} (hn:H.f n=some (.row 288 (ledG s.acc s.qf))) (hw:WfQ s.acc s.qf s.fns) :
  ACalls P F.quota_End [.ptr n 0,i64 f] H (fun _ H'=>H'.f n=some (.row 288 (ledG (s.qEnd f).acc (s.qEnd f).qf))∧Fra (At n) H H'):=by
 refine fn_rule G.mixed G.quota_End rfl [] (fun hcl=>?_)
 simp only [go_sem]
 refine CA_s [] (quota_known_c G s hn) ?_
 rintro _ H1 ⟨rfl,h1⟩ _ _
 have h1:=h1.of_mk
 have hn1:=h1.some (old_of ht) hn
 simp only [go_sem]
 refine EI_i (fun hk=>?_) (fun hk=>?_)
 ·have hk:s.known f=false:=by simpa using hk
  simp only [go_sem,hn1]
  have:s.qEnd f=s:=by unfold CS.qEnd; rw [if_neg (by simp [hk])]
  rw [this]
  exact ⟨rfl,h1.fra.mk'⟩
 have hk:s.known f=true:=by simpa using hk
 have hb:=(known_iff.1 hk).1
 have b3:32+f.toNat*4+3<288:=by omega
 have hq:=hw.lq f.toNat
 simp only [go_sem,hn1,hb.1,hb.2,b3,ledG_q (show 3<4 by decide)]
 refine EI_i (fun d=>?_) (fun d=>?_)
 ·have d:(s.qf f.toNat).busy=0:=by simpa using d
  simp only [go_sem,hn1]
  have:s.qEnd f=s:=by unfold CS.qEnd; rw [if_neg (by simp [d])]
  rw [this]
  exact ⟨rfl,h1.fra.mk'⟩
 have d:(s.qf f.toNat).busy≠0:=by simpa using d
 have e:IntKind.i64.wrap ((s.qf f.toNat).busy-1)=(s.qf f.toNat).busy-1:=wrap64 (by omega) (by omega)
 simp only [go_sem,hn1,hb.1,hb.2,b3,ledG_q (show 3<4 by decide),e]
 refine ⟨?_,h1.fra.mk'.s1⟩
 have:=upd_led3 (acc:=s.acc) (qf:=s.qf) (i:=f.toNat) (v:=(s.qf f.toNat).busy-1)
 rw [this]
 unfold CS.qEnd
 rw [if_pos (by simp [hk,d])]
theorem quota_SetAccount_c (G:Good P F) {n:Nm} (ht:n.t≠0) (s:CS) {a limit:Int} {H:AH} (hn:H.f n=some (.row 288 (ledG s.acc s.qf))) (hw:WfQ s.acc s.qf s.fns) :
  ACalls P F.quota_SetAccount [.ptr n 0,i64 a,i64 limit] H (fun v H'=>v=i64 (s.setAccount a limit).2∧H'.f n=some (.row 288 (ledG (s.setAccount a limit).1.acc (s.setAccount a limit).1.qf))∧Fra (At n) H H'):=by
 refine fn_rule G.mixed G.quota_SetAccount rfl [] (fun hcl=>?_)
 have k1:(a<0∨a ≥ 16∨limit<0∨limit>1000) → ∀ v H',v=i64 1→H'.f n=H.f n→Fra (At n) H H'→v=i64 (s.setAccount a limit).2∧H'.f n=some (.row 288 (ledG (s.setAccount a limit).1.acc (s.setAccount a limit).1.qf))∧Fra (At n) H H':=by
  intro hc v H' hv hf hfr
  unfold CS.setAccount
  rw [if_pos hc]
  exact ⟨hv,by rw [hf,hn],hfr⟩
 simp only [go_sem]
 refine EI_i (fun c1=>?_) (fun c1=>?_)
 ·simp only [go_sem]
  exact k1 (by simp at c1; omega) _ ⟨H.f,H.k,[]⟩ rfl rfl Fra.mk1
 simp only [go_sem]
 refine EI_i (fun c2=>?_) (fun c2=>?_)
 ·simp only [go_sem]
  exact k1 (by simp at c2; omega) _ ⟨H.f,H.k,[]⟩ rfl rfl Fra.mk1
 simp only [go_sem]
 refine EI_i (fun c3=>?_) (fun c3=>?_)
 ·simp only [go_sem]
  exact k1 (by simp at c3; omega) _ ⟨H.f,H.k,[]⟩ rfl rfl Fra.mk1
 simp only [go_sem]
 refine EI_i (fun c4=>?_) (fun c4=>?_)
 ·simp only [go_sem]
  exact k1 (by simp at c4; omega) _ ⟨H.f,H.k,[]⟩ rfl rfl Fra.mk1
 simp only [decide_eq_false_iff_not,ge_iff_le,gt_iff_lt,Int.not_lt,Int.not_le] at c1 c2 c3 c4
 have hng : ¬ (a<0∨a ≥ 16∨limit<0∨limit>1000):=by omega
 simp only [go_sem]
 refine CA_s [] (quota_sums_c G ht s hn hw) ?_
 rintro _ H1 ⟨rfl,h1⟩ _ _
 have h1:=h1.of_mk
 have hn1:=h1.some (old_of ht) hn
 simp only [go_sem]
 unfold CS.setAccount
 rw [if_neg hng]
 refine EI_i (fun d=>?_) (fun d=>?_)
 ·have d:limit<(s.sums a 64).1:=by simpa using d
  simp only [go_sem]
  rw [if_pos d]
  exact ⟨rfl,hn1,h1.fra.mk'⟩
 have d : ¬ limit<(s.sums a 64).1:=by simpa using d
 rw [if_neg d]
 have b2:a.toNat*2+2≤288:=by omega
 simp only [go_sem,hn1,c1,c2,b2]
 refine ⟨?_,h1.fra.mk'.s1⟩
 have:=upd_leda (acc:=s.acc) (qf:=s.qf) (i:=a.toNat) (b:=true) (v:=limit) (by omega)
 rw [this]
theorem quota_SetFunc_c (G:Good P F) {n:Nm} (ht:n.t≠0) (s:CS) {f a res:Int} {H:AH} (hn:H.f n=some (.row 288 (ledG s.acc s.qf))) (hw:WfQ s.acc s.qf s.fns) :
  ACalls P F.quota_SetFunc [.ptr n 0,i64 f,i64 a,i64 res] H (fun v H'=>v=i64 (s.setFunc f a res).2∧H'.f n=some (.row 288 (ledG (s.setFunc f a res).1.acc (s.setFunc f a res).1.qf))∧Fra (At n) H H'):=by
 refine fn_rule G.mixed G.quota_SetFunc rfl [] (fun hcl=>?_)
 have k1:(f<0∨f ≥ 64∨a<0∨a ≥ 16∨res<0∨res>1000) → ∀ v H',v=i64 1→H'.f n=H.f n→Fra (At n) H H'→v=i64 (s.setFunc f a res).2∧H'.f n=some (.row 288 (ledG (s.setFunc f a res).1.acc (s.setFunc f a res).1.qf))∧Fra (At n) H H':=by
  intro hc v H' hv hf hfr
  unfold CS.setFunc
  rw [if_pos hc]
  exact ⟨hv,by rw [hf,hn],hfr⟩
 simp only [go_sem]
 refine EI_i (fun c1=>?_) (fun c1=>?_)
 ·simp only [go_sem]
  exact k1 (by simp at c1; omega) _ ⟨H.f,H.k,[]⟩ rfl rfl Fra.mk1
 simp only [go_sem]
 refine EI_i (fun c2=>?_) (fun c2=>?_)
 ·simp only [go_sem]
  exact k1 (by simp at c2; omega) _ ⟨H.f,H.k,[]⟩ rfl rfl Fra.mk1
 simp only [go_sem]
 refine EI_i (fun c3=>?_) (fun c3=>?_)
 ·simp only [go_sem]
  exact k1 (by simp at c3; omega) _ ⟨H.f,H.k,[]⟩ rfl rfl Fra.mk1
 simp only [go_sem]
 refine EI_i (fun c4=>?_) (fun c4=>?_)
 ·simp only [go_sem]
  exact k1 (by simp at c4; omega) _ ⟨H.f,H.k,[]⟩ rfl rfl Fra.mk1
 simp only [go_sem]
 refine EI_i (fun c5=>?_) (fun c5=>?_)
 ·simp only [go_sem]
  exact k1 (by simp at c5; omega) _ ⟨H.f,H.k,[]⟩ rfl rfl Fra.mk1
 simp only [go_sem]
 refine EI_i (fun c6=>?_) (fun c6=>?_)
 ·simp only [go_sem]
  exact k1 (by simp at c6; omega) _ ⟨H.f,H.k,[]⟩ rfl rfl Fra.mk1
 simp only [decide_eq_false_iff_not,ge_iff_le,gt_iff_lt,Int.not_lt,Int.not_le] at c1 c2 c3 c4 c5 c6
 have hng : ¬ (f<0∨f ≥ 64∨a<0∨a ≥ 16∨res<0∨res>1000):=by omega
 have b3:32+f.toNat*4+3<288:=by omega
 have b2:32+f.toNat*4+2<288:=by omega
 have b1:32+f.toNat*4+1<288:=by omega
 have b0:32+f.toNat*4<288:=by omega
 have a1:a.toNat*2+1<288:=by omega
 have a0:a.toNat*2<288:=by omega
 have a16:a.toNat<16:=by omega
 unfold CS.setFunc
 rw [if_neg hng]
 simp only [go_sem,hn,c3,c4,a0,ledG_a0 a16]
 refine EI_i (fun d1=>?_) (fun d1=>?_)
 ·simp only [go_sem]
  rw [if_pos d1]
  exact ⟨rfl,hn,Fra.mk1⟩
 rw [if_neg (by simp [d1])]
 simp only [go_sem,hn,c1,c2,b0,ledG_q0]
 refine EI_i (fun d2=>?_) (fun d2=>?_)
 ·simp only [go_sem,hn,c1,c2,b1,ledG_q (show 1<4 by decide)]
  refine EI_i (fun d3=>?_) (fun d3=>?_)
  ·simp only [go_sem]
   rw [if_pos (by simp [d2,d3])]
   exact ⟨rfl,hn,Fra.mk1⟩
  rw [if_neg (by simp [d3])]
  simp only [go_sem]
  refine CA_s [] (quota_sums_c G ht s hn hw) ?_
  rintro _ H1 ⟨rfl,h1⟩ _ _
  have h1:=h1.of_mk
  have hn1:=h1.some (old_of ht) hn
  have hss:=sums_le hw a 64
  have hq:=hw.lq f.toNat
  have e1:IntKind.i64.wrap ((s.sums a 64).1-(s.qf f.toNat).reserved)=(s.sums a 64).1-(s.qf f.toNat).reserved:=wrap64 (by omega) (by omega)
  have e2:IntKind.i64.wrap ((s.sums a 64).1-(s.qf f.toNat).reserved+res)=(s.sums a 64).1-(s.qf f.toNat).reserved+res:=wrap64 (by omega) (by omega)
  simp only [go_sem,hn1,c1,c2,c3,c4,b2,a1,ledG_q (show 2<4 by decide),ledG_a (show 1<2 by decide) a16,e1,e2]
  refine EI_i (fun d4=>?_) (fun d4=>?_)
  ·have d4:(s.acc a.toNat).limit<(s.sums a 64).1-(s.qf f.toNat).reserved+res:=by simpa using d4
   simp only [go_sem]
   rw [if_pos d4]
   exact ⟨rfl,hn1,h1.fra.mk'⟩
  have d4 : ¬ (s.sums a 64).1-(s.qf f.toNat).reserved+res>(s.acc a.toNat).limit:=by simpa using d4
  rw [if_neg d4]
  simp only [go_sem,hn1,c1,c2,b0,b1,b2]
  refine ⟨?_,h1.fra.mk'.s1⟩
  have u1:=upd_led0 (acc:=s.acc) (qf:=s.qf) (i:=f.toNat) (v:=true)
  rw [u1]
  have u2:=upd_led1 (acc:=s.acc) (qf:=upn s.qf f.toNat { s.qf f.toNat with there:=true }) (i:=f.toNat) (v:=a)
  rw [u2,upn_upn,upn_s]
  have u3:=upd_led2 (acc:=s.acc) (qf:=upn s.qf f.toNat { s.qf f.toNat with there:=true,account:=a }) (i:=f.toNat) (v:=res)
  rw [u3,upn_upn,upn_s]
 ·rw [if_neg (by simp [d2])]
  simp only [go_sem]
  refine CA_s [] (quota_sums_c G ht s hn hw) ?_
  rintro _ H1 ⟨rfl,h1⟩ _ _
  have h1:=h1.of_mk
  have hn1:=h1.some (old_of ht) hn
  have hss:=sums_le hw a 64
  have hq:=hw.lq f.toNat
  have e1:IntKind.i64.wrap ((s.sums a 64).1-(s.qf f.toNat).reserved)=(s.sums a 64).1-(s.qf f.toNat).reserved:=wrap64 (by omega) (by omega)
  have e2:IntKind.i64.wrap ((s.sums a 64).1-(s.qf f.toNat).reserved+res)=(s.sums a 64).1-(s.qf f.toNat).reserved+res:=wrap64 (by omega) (by omega)
  simp only [go_sem,hn1,c1,c2,c3,c4,b2,a1,ledG_q (show 2<4 by decide),ledG_a (show 1<2 by decide) a16,e1,e2]
  refine EI_i (fun d4=>?_) (fun d4=>?_)
  ·have d4:(s.acc a.toNat).limit<(s.sums a 64).1-(s.qf f.toNat).reserved+res:=by simpa using d4
   simp only [go_sem]
   rw [if_pos d4]
   exact ⟨rfl,hn1,h1.fra.mk'⟩
  have d4 : ¬ (s.sums a 64).1-(s.qf f.toNat).reserved+res>(s.acc a.toNat).limit:=by simpa using d4
  rw [if_neg d4]
  simp only [go_sem,hn1,c1,c2,b0,b1,b2]
  refine ⟨?_,h1.fra.mk'.s1⟩
  have u1:=upd_led0 (acc:=s.acc) (qf:=s.qf) (i:=f.toNat) (v:=true)
  rw [u1]
  have u2:=upd_led1 (acc:=s.acc) (qf:=upn s.qf f.toNat { s.qf f.toNat with there:=true }) (i:=f.toNat) (v:=a)
  rw [u2,upn_upn,upn_s]
  have u3:=upd_led2 (acc:=s.acc) (qf:=upn s.qf f.toNat { s.qf f.toNat with there:=true,account:=a }) (i:=f.toNat) (v:=res)
  rw [u3,upn_upn,upn_s]
theorem quota_New_c (G:Good P F) {n:Nm} {H:AH} (ht:n.t≠0) (hn:H.f n=none) :
  ACalls P F.quota_New [] H (fun v H'=>v=.ptr n 0∧H'.f n=some (.row 288 (ledG (fun _=>{}) fun _=>{}))∧Fra (At n) H H'):=by
 refine ACalls.post (K':=fun v H'=>v=.ptr n 0∧(∃ g,H'.f n=some (.row 288 g) ∧ ∀ i,i<288→ledG (fun _=>{}) (fun _=>{}) i=g i)∧Fra (At n) H H') ?_ ?_
 ·refine fn_rule G.mixed G.quota_New rfl [n] (fun hcl=>?_)
  simp only [go_sem,hn]
  refine ⟨by rw [List.all_append,List.all_append,all_rep rfl,all_rep rfl]; rfl,ht,⟨_,by rw [List.length_append,List.length_append,len_rep,len_rep]; rfl,?_⟩,(Fra.mk1.s1).bmp⟩
  intro i hi
  unfold cs
  rw [getD_app,getD_app]
  simp only [List.length_append,len_rep,List.length_cons,List.length_nil,Nat.reduceAdd,Nat.reduceMul]
  unfold ledG rowOf
  by_cases h1:i<32
  ·rw [if_pos h1,if_pos (by omega),if_pos (by omega),getD_rep (c:=[AV.bool false,AV.int .i64 0]) (by simp) 17 i (by simp; omega)]
   rfl
  ·rw [if_neg h1]
   by_cases h2:i<34
   ·rw [if_pos (by omega),if_pos (by omega),getD_rep (c:=[AV.bool false,AV.int .i64 0]) (by simp) 17 i (by simp; omega)]
    have:i=32∨i=33:=by omega
    rcases this with rfl | rfl <;> rfl
   ·by_cases h3:i<286
    ·rw [if_pos (by omega),if_neg (by omega),getD_rep (c:=[AV.int .i64 0,AV.int .i64 0,AV.bool false,AV.int .i64 0]) (by simp) 63 (i-34) (by simp; omega)]
     simp only [List.length_cons,List.length_nil,Nat.reduceAdd]
     have h5:(i-34) % 4=0∨(i-34) % 4=1∨(i-34) % 4=2∨(i-34) % 4=3:=by omega
     rcases h5 with h | h | h | h
     ·rw [h,show (i-32) % 4=2 by omega]; rfl
     ·rw [h,show (i-32) % 4=3 by omega]; rfl
     ·rw [h,show (i-32) % 4=0 by omega]; rfl
     ·rw [h,show (i-32) % 4=1 by omega]; rfl
    ·rw [if_neg (by omega)]
     have:i=286∨i=287:=by omega
     rcases this with rfl | rfl <;> rfl
 ·rintro v H' ⟨rfl,⟨g,h1,h2⟩,h3⟩ _ _
  exact ⟨_,Wk.row h1 (Nat.le_refl _) (g':=ledG (fun _=>{}) fun _=>{}) h2,rfl,by simp only [go_sem],h3.s1⟩
end Go.Ab

namespace Go.Ab
open Go Gh
variable {P : Program} {F : Nums}
def cmpI (a b:Int):Int:=if a<b then -1 else if b<a then 1 else 0
theorem isNaN64_c (G:Good P F) {a:Int} {H:AH}:ACalls P F.cmp_isNaN_int64 [i64 a] H (fun v H'=>v=.bool false∧Same H H'):=by
 refine fn_rule G.mixed G.cmp_isNaN_int64 rfl [] (fun hcl=>?_)
 simp only [go_sem,bne_self_eq_false]
 exact Same.mk1
theorem isNaN_c (G:Good P F) {a:Int} {H:AH}:ACalls P F.cmp_isNaN [i64 a] H (fun v H'=>v=.bool false∧Same H H'):=by
 refine fn_rule G.mixed G.cmp_isNaN rfl [] (fun hcl=>?_)
 simp only [go_sem,bne_self_eq_false]
 exact Same.mk1
theorem isNaNu_c (G:Good P F) {a:Int} {H:AH}:ACalls P F.cmp_isNaN_uint64 [u64 a] H (fun v H'=>v=.bool false∧Same H H'):=by
 refine fn_rule G.mixed G.cmp_isNaN_uint64 rfl [] (fun hcl=>?_)
 simp only [go_sem,bne_self_eq_false]
 exact Same.mk1
theorem Compare64_c (G:Good P F) {a b:Int} {H:AH}:ACalls P F.cmp_Compare_int64 [i64 a,i64 b] H (fun v H'=>v=i64 (cmpI a b)∧Same H H'):=by
 refine fn_rule G.mixed G.cmp_Compare_int64 rfl [] (fun hcl=>?_)
 simp only [go_sem]
 refine CA_s [] (isNaN64_c G) ?_
 rintro _ H1 ⟨rfl,h1⟩ _ _
 simp only [go_sem]
 refine CA_s [] (isNaN64_c G) ?_
 rintro _ H2 ⟨rfl,h2⟩ _ _
 have hs:Same H H2:=h1.of_mk.trans h2.of_mk
 simp only [go_sem]
 refine EI_i (fun d=>?_) (fun d=>?_)
 ·simp only [go_sem]
  have d:a<b:=by simpa using d
  exact ⟨by unfold cmpI; rw [if_pos d],hs.mk'⟩
 simp only [go_sem]
 have d : ¬ a<b:=by simpa using d
 refine EI_i (fun e=>?_) (fun e=>?_)
 ·simp only [go_sem]
  have e:b<a:=by simpa using e
  exact ⟨by unfold cmpI; rw [if_neg d,if_pos e],hs.mk'⟩
 ·simp only [go_sem]
  have e : ¬ b<a:=by simpa using e
  exact ⟨by unfold cmpI; rw [if_neg d,if_neg e],hs.mk'⟩
theorem Compare_c (G:Good P F) {a b:Int} {H:AH}:ACalls P F.cmp_Compare [i64 a,i64 b] H (fun v H'=>v=i64 (cmpI a b)∧Same H H'):=by
 refine fn_rule G.mixed G.cmp_Compare rfl [] (fun hcl=>?_)
 simp only [go_sem]
 refine CA_s [] (isNaN_c G) ?_
 rintro _ H1 ⟨rfl,h1⟩ _ _
 simp only [go_sem]
 refine CA_s [] (isNaN_c G) ?_
 rintro _ H2 ⟨rfl,h2⟩ _ _
 have hs:Same H H2:=h1.of_mk.trans h2.of_mk
 simp only [go_sem]
 refine EI_i (fun d=>?_) (fun d=>?_)
 ·simp only [go_sem]
  have d:a<b:=by simpa using d
  exact ⟨by unfold cmpI; rw [if_pos d],hs.mk'⟩
 simp only [go_sem]
 have d : ¬ a<b:=by simpa using d
 refine EI_i (fun e=>?_) (fun e=>?_)
 ·simp only [go_sem]
  have e:b<a:=by simpa using e
  exact ⟨by unfold cmpI; rw [if_neg d,if_pos e],hs.mk'⟩
 ·simp only [go_sem]
  have e : ¬ b<a:=by simpa using e
  exact ⟨by unfold cmpI; rw [if_neg d,if_neg e],hs.mk'⟩
theorem Compareu_c (G:Good P F) {a b:Int} {H:AH}:ACalls P F.cmp_Compare_uint64 [u64 a,u64 b] H (fun v H'=>v=i64 (cmpI a b)∧Same H H'):=by
 refine fn_rule G.mixed G.cmp_Compare_uint64 rfl [] (fun hcl=>?_)
 simp only [go_sem]
 refine CA_s [] (isNaNu_c G) ?_
 rintro _ H1 ⟨rfl,h1⟩ _ _
 simp only [go_sem]
 refine CA_s [] (isNaNu_c G) ?_
 rintro _ H2 ⟨rfl,h2⟩ _ _
 have hs:Same H H2:=h1.of_mk.trans h2.of_mk
 simp only [go_sem]
 refine EI_i (fun d=>?_) (fun d=>?_)
 ·simp only [go_sem]
  have d:a<b:=by simpa using d
  exact ⟨by unfold cmpI; rw [if_pos d],hs.mk'⟩
 simp only [go_sem]
 have d : ¬ a<b:=by simpa using d
 refine EI_i (fun e=>?_) (fun e=>?_)
 ·simp only [go_sem]
  have e:b<a:=by simpa using e
  exact ⟨by unfold cmpI; rw [if_neg d,if_pos e],hs.mk'⟩
 ·simp only [go_sem]
  have e : ¬ b<a:=by simpa using e
  exact ⟨by unfold cmpI; rw [if_neg d,if_neg e],hs.mk'⟩
def orL:List Int→Int
 | []=>0
 | a::r=>if a=0 then orL r else a
theorem cs_map_at {l:List Int} {i:Nat} (h:i<l.length):(l.map i64).getD i .any=i64 l[i]:=by
 simp [List.getD_eq_getElem?_getD,h]
theorem Or_c (G:Good P F) {l:List Int} {n:Nm} {H:AH} (hn:H.f n=some (.row l.length (cs (l.map i64)))) (ho:old H n) (hl:l.length<1000) :
  ACalls P F.cmp_Or [.slice n 1 0 l.length] H (fun v H'=>v=i64 (orL l)∧Same H H'):=by
 refine fn_rule G.mixed G.cmp_Or rfl [] (fun hcl=>?_)
 simp only [go_sem]
 refine C_loop (fun k x H' => ∃ i:Nat,i+k=l.length∧Same H H'∧orL l=orL (l.drop i)∧x=[(3,i64 0),(6,.slice n 1 0 l.length),(7,i64 l.length),(8,i64 i)]) l.length ⟨0,by simp,Same.mk1,rfl,rfl⟩ ?_
 rintro k _ H1 ⟨i,hi,h1,ho1,rfl⟩ _ hcl1
 refine ⟨[],?_⟩
 have hn1:=h1.some ho hn
 simp only [go_sem]
 refine EI_i (fun c1=>?_) (fun c1=>?_)
 ·have c1:i<l.length:=by simp at c1; omega
  have c0:(0:Int)≤(i:Int):=by omega
  have c2:(i:Int)<(l.length:Int):=by omega
  simp only [go_sem,c0,c2,Int.toNat_natCast,hn1,c1,Nat.mul_one,cs_map_at c1]
  have ed:l.drop i=l[i]::l.drop (i+1):=List.drop_eq_getElem_cons c1
  refine EI_i (fun d=>?_) (fun d=>?_)
  ·simp only [go_sem]
   have d:l[i]≠0:=by simpa using d
   exact ⟨by rw [ho1,ed,orL,if_neg d],h1.mk'⟩
  ·simp only [go_sem]
   have d:l[i]=0:=by simpa using d
   refine ⟨k-1,_,rfl,by omega,i+1,by omega,h1.mk',by rw [ho1,ed,orL,if_pos d],?_⟩
   rw [wrapS (by omega)]
 ·have c1:i=l.length:=by simp at c1; omega
  subst c1
  simp only [go_sem]
  exact ⟨by rw [ho1,List.drop_length]; rfl,h1.mk'⟩
end Go.Ab

namespace Go.Ab
open Go Gh
variable {P : Program} {F : Nums}
abbrev tmM (m:Mk):List AV:=[i64 m.1,i64 m.2.1,i64 m.2.2]
abbrev wmM (m:Mk):List AV:=[u64 m.1,u64 m.2.1,i64 m.2.2]
abbrev two (H:AH) (a b:AO):AH:=bmp 2 (AH.set (AH.set ⟨H.f,H.k,[]⟩ ⟨0,H.k,0⟩ a) ⟨0,H.k,1⟩ b)
theorem two_same {H:AH} {a b:AO}:Same H (two H a b):=by
 refine Same.bmp ?_
 have h1:Same H (AH.set ⟨H.f,H.k,[]⟩ ⟨0,H.k,0⟩ a):=(Same.refl H).tmp
 exact h1.set fun ho=>by have h0:H.k<H.k:=ho rfl; omega
theorem two_0 {H H1:AH} {a b:AO} (h:Same (two H a b) H1):H1.f ⟨0,H.k,0⟩=some a:=by
 rw [h.at_ _ (fun _=>by show H.k<H.k+1; omega)]
 simp [two,bmp_f,AH.set]
theorem two_1 {H H1:AH} {a b:AO} (h:Same (two H a b) H1):H1.f ⟨0,H.k,1⟩=some b:=by
 rw [h.at_ _ (fun _=>by show H.k<H.k+1; omega)]
 simp [two,bmp_f,AH.set]
theorem orL_lt {l:List Int}:orL (0::l)=orL l:=by simp [orL]
theorem cmpI_ne {a b:Int} (h:cmpI a b≠0) (l:List Int):orL (cmpI a b::l)=cmpI a b:=by simp [orL,h]
theorem cmpI_0 {a b:Int}:cmpI a b=0↔a=b:=by
 unfold cmpI
 by_cases h:a<b
 ·rw [if_pos h]; omega
 ·rw [if_neg h]; split <;> omega
theorem cmpI_neg {a b:Int}:cmpI a b<0↔a<b:=by
 unfold cmpI
 by_cases h:a<b
 ·rw [if_pos h]; omega
 ·rw [if_neg h]; split <;> omega
theorem tmp_at {A B:AH} {k q:Int} {o:AO} (h:Same A B) (hk:k<A.k) (ho:A.f ⟨0,k,q⟩=some o):B.f ⟨0,k,q⟩=some o:=by rw [h.at_ _ (fun _=>hk),ho]
theorem two_k {H H1:AH} {a b:AO} (h:Same (two H a b) H1):H.k<H1.k:=by have h1:H.k+1≤H1.k:=h.k; omega
theorem orL2 (a b:Int):orL [a,b]=if a=0 then b else a:=by
 by_cases h:a=0 <;> by_cases h':b=0 <;> simp [orL,h,h']
theorem orL3 (a b c:Int):orL [a,b,c]=if a=0 then if b=0 then c else b else a:=by
 by_cases h:a=0 <;> by_cases h':b=0 <;> by_cases h'':c=0 <;> simp [orL,h,h',h'']
theorem timer_less_c (G:Good P F) {a b:Mk} {H:AH}:ACalls P F.timer_less [.agg (tmM a),.agg (tmM b)] H (fun v H'=>v=.bool (tmLt a b)∧Same H H'):=by
 refine fn_rule G.mixed G.timer_less rfl [] (fun hcl=>?_)
 have n1:(⟨0,H.k,0⟩:Nm)≠⟨0,H.k,1⟩:=tmp_ne (by decide)
 simp only [go_sem,n1]
 refine CA_s [] (Compare64_c G) ?_
 rintro _ H1 ⟨rfl,h1⟩ _ _
 have e0:=two_0 h1
 have e1:=two_1 h1
 have k1:=two_k h1
 have h1:=two_same.trans h1
 simp only [go_sem,holdsOk_cons,gd_none,pureV,forall_const,fr_lkp,e0,e1]
 refine CA_s [] (Compare_c G) ?_
 rintro _ H2 ⟨rfl,h2⟩ _ _
 have h2:=h2.of_mk
 have e0:=tmp_at h2 k1 e0
 have e1:=tmp_at h2 k1 e1
 have h2:=h1.trans h2
 simp only [go_sem,holdsOk_cons,gd_none,pureV,forall_const,fr_lkp,e0,e1]
 refine CA_s [] (Compare_c G) ?_
 rintro _ H3 ⟨rfl,h3⟩ _ _
 have h3:=h2.trans h3.of_mk
 simp only [go_sem]
 refine CA_s [] (Or_c G (l:=[cmpI a.1 b.1,cmpI a.2.1 b.2.1,cmpI a.2.2 b.2.2]) (by simp only [go_sem,bmp_f]) old_tmp (by simp)) ?_
 rintro _ H4 ⟨rfl,h4⟩ _ _
 simp only [go_sem]
 refine ⟨?_,((h3.tmp.bmp).trans h4).mk'⟩
 rw [orL3]
 congr 1
 unfold tmLt CS.tLt
 rw [Bool.eq_iff_iff]
 simp only [decide_eq_true_eq,Bool.or_eq_true,Bool.and_eq_true,cmpI_0]
 by_cases h:a.1=b.1
 ·rw [if_pos h]
  by_cases h':a.2.1=b.2.1
  ·rw [if_pos h',cmpI_neg]; omega
  ·rw [if_neg h',cmpI_neg]; omega
 ·rw [if_neg h,cmpI_neg]; omega
theorem and_lo {x:Int} (h:0≤x∧x<18446744073709551616):IntKind.u64.wrap ↑(BitVec.ofInt 64 x &&& BitVec.ofInt 64 4294967295).toNat=x % 4294967296:=by
 obtain ⟨n,rfl⟩ : ∃ n:Nat,x=n:=⟨x.toNat,by omega⟩
 have hn:n<2 ^ 64:=by omega
 have e:(BitVec.ofInt 64 (n:Int) &&& BitVec.ofInt 64 4294967295).toNat=n % 4294967296:=by
  rw [BitVec.toNat_and,BitVec.toNat_ofInt,BitVec.toNat_ofInt]
  have e1:((n:Int) % (2 ^ 64:Nat)).toNat=n:=by omega
  have e2:((4294967295:Int) % (2 ^ 64:Nat)).toNat=2 ^ 32-1:=by decide
  rw [e1,e2,Nat.and_two_pow_sub_one_eq_mod]
 rw [e,wrapu64 (by omega) (by omega)]
 omega
def loH (x:Int):Int:=IntKind.u64.wrap ↑(BitVec.ofInt 64 x &&& BitVec.ofInt 64 4294967295).toNat
theorem loH_eq {x:Int} (h:0≤x∧x<18446744073709551616):loH x=x % 4294967296:=and_lo h
@[go_sem high] theorem bin_and {x:Int}:binop .and (.int .u64 x) (.int .u64 4294967295)=some (.int .u64 (loH x)):=rfl
theorem sh32 {x:Int}:x.fdiv (2 ^ min (Int.toNat 32) 64)=x / 4294967296:=by
 rw [show (2:Int) ^ min (Int.toNat 32) 64=4294967296 by decide]
 exact Int.fdiv_eq_ediv_of_nonneg _ (by decide)
theorem wrapu {n:Int}:IntKind.u64.wrap n=n % 18446744073709551616:=by
 unfold IntKind.wrap
 simp only [show IntKind.u64.bits=64 from rfl,show IntKind.u64.signed=false from rfl,Bool.false_and]
 simp only [Bool.false_eq_true,if_false]
 omega
theorem mul_hi {x y:Int} (hx:0≤x∧x<18446744073709551616) (hy:0≤y∧y<18446744073709551616) :
  ∃ a b c d:Int,x / 4294967296*(y / 4294967296)=a∧x / 4294967296*(y % 4294967296)=b∧x % 4294967296*(y / 4294967296)=c∧x % 4294967296*(y % 4294967296)=d ∧
   (0≤a∧a≤18446744065119617025)∧(0≤b∧b≤18446744065119617025)∧(0≤c∧c≤18446744065119617025)∧(0≤d∧d≤18446744065119617025) ∧
   x*y=a*18446744073709551616+(b+c)*4294967296+d:=by
 have bd : ∀ p q:Int,0≤p∧p≤4294967295→0≤q∧q≤4294967295→0≤p*q∧p*q≤18446744065119617025:=fun p q hp hq =>
  ⟨Int.mul_nonneg hp.1 hq.1,Int.mul_le_mul hp.2 hq.2 hq.1 (by decide)⟩
 refine ⟨_,_,_,_,rfl,rfl,rfl,rfl,bd _ _ (by omega) (by omega),bd _ _ (by omega) (by omega),bd _ _ (by omega) (by omega),bd _ _ (by omega) (by omega),?_⟩
 have e1:x=x / 4294967296*4294967296+x % 4294967296:=by omega
 have e2:y=y / 4294967296*4294967296+y % 4294967296:=by omega
 generalize x / 4294967296=x1 at *
 generalize x % 4294967296=x0 at *
 generalize y / 4294967296=y1 at *
 generalize y % 4294967296=y0 at *
 subst e1
 subst e2
 grind
theorem Mul64_c (G:Good P F) {x y:Int} {H:AH} (hx:0≤x∧x<18446744073709551616) (hy:0≤y∧y<18446744073709551616) :
  ACalls P F.math_bits_Mul64 [u64 x,u64 y] H (fun v H'=>v=.tup [u64 (x*y / 18446744073709551616),u64 (x*y % 18446744073709551616)]∧Same H H'):=by
 refine fn_rule G.mixed G.math_bits_Mul64 rfl [] (fun hcl=>?_)
 obtain ⟨a,b,c,d,ea,eb,ec,ed,ha,hb,hc,hd,he⟩:=mul_hi hx hy
 have w1:IntKind.u64.wrap d=d:=wrapu64 (by omega) (by omega)
 have w2:IntKind.u64.wrap b=b:=wrapu64 (by omega) (by omega)
 have w3:IntKind.u64.wrap (b+d / 4294967296)=b+d / 4294967296:=wrapu64 (by omega) (by omega)
 have w4:=loH_eq (x:=b+d / 4294967296) (by omega)
 have w5:IntKind.u64.wrap c=c:=wrapu64 (by omega) (by omega)
 have w6:IntKind.u64.wrap ((b+d / 4294967296) % 4294967296+c)=(b+d / 4294967296) % 4294967296+c:=wrapu64 (by omega) (by omega)
 have w7:IntKind.u64.wrap a=a:=wrapu64 (by omega) (by omega)
 have w8:IntKind.u64.wrap (a+(b+d / 4294967296) / 4294967296)=a+(b+d / 4294967296) / 4294967296:=wrapu64 (by omega) (by omega)
 have w9:IntKind.u64.wrap (a+(b+d / 4294967296) / 4294967296+((b+d / 4294967296) % 4294967296+c) / 4294967296)=x*y / 18446744073709551616:=by
  have hlt:x*y / 18446744073709551616<18446744073709551616:=by
   have:=Int.mul_lt_mul' (Int.le_of_lt_add_one (show x<18446744073709551615+1 by omega)) (show y<18446744073709551616 by omega) hy.1 (by decide)
   omega
  rw [wrapu64 (by omega) (by omega)]
  omega
 simp only [go_sem,loH_eq hx,loH_eq hy,sh32,Int.reduceLT,ea,eb,ec,ed,w1,w2,w3,w4,w5,w6,w7,w8,w9]
 exact ⟨by rw [wrapu],Same.mk1⟩
end Go.Ab

namespace Go.Ab
open Go Gh
variable {P : Program} {F : Nums}
abbrev ratC (r:Int × Int):List AV:=[u64 r.1,u64 r.2]
def u64b (x:Int):Prop:=0≤x∧x<18446744073709551616
theorem cmpI_lt {a b:Int} (h:a<b):cmpI a b = -1:=by unfold cmpI; rw [if_pos h]
theorem cmpI_gt {a b:Int} (h:b<a):cmpI a b=1:=by unfold cmpI; rw [if_neg (by omega),if_pos h]
theorem cmpI_split (p q:Int):(if cmpI (p / 18446744073709551616) (q / 18446744073709551616)=0 then cmpI (p % 18446744073709551616) (q % 18446744073709551616) else cmpI (p / 18446744073709551616) (q / 18446744073709551616))=cmpI p q:=by
 rcases Int.lt_trichotomy (p / 18446744073709551616) (q / 18446744073709551616) with h | h | h
 ·rw [if_neg (by rw [cmpI_0]; omega),cmpI_lt h,cmpI_lt (by omega)]
 ·rw [if_pos (cmpI_0.2 h)]
  rcases Int.lt_trichotomy (p % 18446744073709551616) (q % 18446744073709551616) with h' | h' | h'
  ·rw [cmpI_lt h',cmpI_lt (by omega)]
  ·rw [cmpI_0.2 h',cmpI_0.2 (by omega)]
  ·rw [cmpI_gt h',cmpI_gt (by omega)]
 ·rw [if_neg (by rw [cmpI_0]; omega),cmpI_gt h,cmpI_gt (by omega)]
theorem Ratio_Compare_c (G:Good P F) {a b:Int × Int} {H:AH} (ha1:u64b a.1) (ha2:u64b a.2) (hb1:u64b b.1) (hb2:u64b b.2) :
  ACalls P F.ratio_Ratio_Compare [.agg (ratC a),.agg (ratC b)] H (fun v H'=>v=i64 (cmpI (a.1*b.2) (b.1*a.2))∧Same H H'):=by
 refine fn_rule G.mixed G.ratio_Ratio_Compare rfl [] (fun hcl=>?_)
 have n1:(⟨0,H.k,0⟩:Nm)≠⟨0,H.k,1⟩:=tmp_ne (by decide)
 simp only [go_sem,n1]
 refine CA_s [] (Mul64_c G ha1 hb2) ?_
 rintro _ H1 ⟨rfl,h1⟩ _ _
 have e0:=two_0 h1
 have e1:=two_1 h1
 have k1:=two_k h1
 have h1:=two_same.trans h1
 simp only [go_sem,e0,e1]
 refine CA_s [] (Mul64_c G hb1 ha2) ?_
 rintro _ H2 ⟨rfl,h2⟩ _ _
 have h2:=h1.trans h2.of_mk
 simp only [go_sem]
 refine CA_s [] (Compareu_c G) ?_
 rintro _ H3 ⟨rfl,h3⟩ _ _
 have h3:=h2.trans h3.of_mk
 simp only [go_sem]
 refine CA_s [] (Compareu_c G) ?_
 rintro _ H4 ⟨rfl,h4⟩ _ _
 have h4:=h3.trans h4.of_mk
 simp only [go_sem]
 refine CA_s [] (Or_c G (l:=[cmpI (a.1*b.2 / 18446744073709551616) (b.1*a.2 / 18446744073709551616),cmpI (a.1*b.2 % 18446744073709551616) (b.1*a.2 % 18446744073709551616)]) (by simp only [go_sem,bmp_f]) old_tmp (by simp)) ?_
 rintro _ H5 ⟨rfl,h5⟩ _ _
 simp only [go_sem]
 refine ⟨?_,((h4.tmp.bmp).trans h5).mk'⟩
 rw [orL2]
 congr 1
 generalize a.1*b.2=p
 generalize b.1*a.2=q
 exact cmpI_split p q
theorem warm_less_c (G:Good P F) {a b:Mk} {H:AH} (ha1:u64b a.1) (ha2:u64b a.2.1) (hb1:u64b b.1) (hb2:u64b b.2.1):ACalls P F.warm_less [.agg (wmM a),.agg (wmM b)] H (fun v H'=>v=.bool (wmLt a b)∧Same H H'):=by
 refine fn_rule G.mixed G.warm_less rfl [] (fun hcl=>?_)
 have n1:(⟨0,H.k,0⟩:Nm)≠⟨0,H.k,1⟩:=tmp_ne (by decide)
 simp only [go_sem,n1]
 refine CA_s [] (Ratio_Compare_c G (a:=(a.1,a.2.1)) (b:=(b.1,b.2.1)) ha1 ha2 hb1 hb2) ?_
 rintro _ H1 ⟨rfl,h1⟩ _ _
 have e0:=two_0 h1
 have e1:=two_1 h1
 have k1:=two_k h1
 have h1:=two_same.trans h1
 simp only [go_sem,holdsOk_cons,gd_none,pureV,forall_const,fr_lkp,e0,e1]
 refine CA_s [] (Compare_c G) ?_
 rintro _ H2 ⟨rfl,h2⟩ _ _
 have h2:=h1.trans h2.of_mk
 simp only [go_sem]
 refine CA_s [] (Or_c G (l:=[cmpI (a.1*b.2.1) (b.1*a.2.1),cmpI a.2.2 b.2.2]) (by simp only [go_sem,bmp_f]) old_tmp (by simp)) ?_
 rintro _ H3 ⟨rfl,h3⟩ _ _
 simp only [go_sem]
 refine ⟨?_,((h2.tmp.bmp).trans h3).mk'⟩
 rw [orL2]
 congr 1
 unfold wmLt CS.wLt
 rw [Bool.eq_iff_iff]
 simp only [decide_eq_true_eq,Bool.or_eq_true,Bool.and_eq_true,cmpI_0]
 by_cases h:a.1*b.2.1=b.1*a.2.1
 ·rw [if_pos h,cmpI_neg]; omega
 ·rw [if_neg h,cmpI_neg]; omega
theorem Ratio_Floor_c (G:Good P F) {a:Int × Int} {H:AH} (ha:u64b a.1) (hd:0<a.2) :
  ACalls P F.ratio_Ratio_Floor [.agg (ratC a)] H (fun v H'=>v=u64 (a.1 / a.2)∧Same H H'):=by
 refine fn_rule G.mixed G.ratio_Ratio_Floor rfl [] (fun hcl=>?_)
 have hq:IntKind.u64.wrap (a.1.tdiv a.2)=a.1 / a.2:=by
  rw [Int.tdiv_eq_ediv_of_nonneg ha.1]
  have h1:a.1 / a.2≤a.1:=Int.ediv_le_self _ ha.1
  have h2:0≤a.1 / a.2:=Int.ediv_nonneg ha.1 (by omega)
  have:=ha.2
  exact wrapu64 h2 (by omega)
 have h0 : ¬ a.2=0:=by omega
 have hb:(a.2==0)=false:=by simpa using h0
 simp only [go_sem,bmp_f,hb,h0,hq]
 exact ((Same.refl H).tmp).bmp
theorem Above_c (G:Good P F) {n up down:Int} {H:AH} (hn:0≤n) (hu:0≤up) (hd:0<down) (hm:n*down+up<18446744073709551616) (hn':n<18446744073709551616) (hu':up<18446744073709551616) (hd':down<18446744073709551616) :
  ACalls P F.ratio_Above [u64 n,u64 up,u64 down] H (fun v H'=>v=.tup [.agg [u64 (n*down+up),u64 down],.bool true]∧Same H H'):=by
 refine fn_rule G.mixed G.ratio_Above rfl [] (fun hcl=>?_)
 have hnn:0≤n*down:=Int.mul_nonneg hn (by omega)
 have e0:n*down / 18446744073709551616=0:=by omega
 have e1:n*down % 18446744073709551616=n*down:=by omega
 have e2:(n*down+up+0) % 2 ^ 64=n*down+up:=by omega
 have e3:(n*down+up+0) / 2 ^ 64=0:=by omega
 have e4:(down==0)=false:=by
  have:down≠0:=by omega
  simpa using this
 simp only [go_sem]
 refine CA_s [] (Mul64_c G ⟨hn,hn'⟩ ⟨by omega,hd'⟩) ?_
 rintro _ H1 ⟨rfl,h1⟩ _ _
 have k1:H.k<H1.k:=by have h:=h1.k; have:H.k+1≤H1.k:=h; omega
 have t0:H1.f ⟨0,H.k,0⟩=some (.row 2 (cs [u64 0,u64 0])):=by
  rw [h1.at_ _ old_tmp]; simp only [go_sem,bmp_f]
 have h1:=((Same.refl H).tmp.bmp).trans h1
 have z1:(0:Int)≤1:=by decide
 have z0:decide ((0:Int)>0)=false:=by decide
 simp only [go_sem,e0,e1,e2,e3,e4,hnn,hu,Int.le_refl,z0,z1,t0]
 exact h1.mk'.set fun ho=>by have h0:H.k<H.k:=ho rfl; omega
theorem num_Add_c (G:Good P F) {a b:Int} {H:AH} (ha : -4611686018427387904≤a∧a≤4611686018427387904) (hb : -4611686018427387904≤b∧b≤4611686018427387903) :
  ACalls P F.num_Add [i64 a,i64 b] H (fun v H'=>v=i64 (a+b)∧Same H H'):=by
 refine fn_rule G.mixed G.num_Add rfl [] (fun hcl=>?_)
 have e:IntKind.i64.wrap (a+b)=a+b:=wrap64 (by omega) (by omega)
 repeat' (first | refine EI_i (fun _=>?_) (fun _=>?_) | simp only [go_sem,e])
 all_goals first
  | exact ⟨by trivial,Same.mk1⟩
  | exact Same.mk1
  | (exfalso; simp_all; omega)
theorem num_Clamp_c (G:Good P F) {n lo hi:Int} {H:AH}:ACalls P F.num_Clamp [i64 n,i64 lo,i64 hi] H (fun v H'=>v=i64 (clamp n lo hi)∧Same H H'):=by
 refine fn_rule G.mixed G.num_Clamp rfl [] (fun hcl=>?_)
 simp only [go_sem]
 exact ⟨by unfold clamp; rfl,Same.mk1⟩
theorem num_signed_c (G:Good P F) {lo:Int} {H:AH} (h:0≤lo∧lo≤9223372036854775807):ACalls P F.num_signed [u64 0,u64 lo,.bool false] H (fun v H'=>v=i64 lo∧Same H H'):=by
 refine fn_rule G.mixed G.num_signed rfl [] (fun hcl=>?_)
 have e:IntKind.i64.wrap lo=lo:=wrap64 (by omega) (by omega)
 have z0:decide ((0:Int)>0)=false:=by decide
 have z1:decide (lo>9223372036854775807)=false:=by simp; omega
 simp only [go_sem,Bool.not_false,e,z0,z1]
 exact Same.mk1
theorem Div64_c (G:Good P F) {lo d:Int} {H:AH} (h:u64b lo) (hd:0<d):ACalls P F.math_bits_Div64 [u64 0,u64 lo,u64 d] H (fun v H'=>v=.tup [u64 (lo / d),u64 (lo % d)]∧Same H H'):=by
 refine fn_rule G.mixed G.math_bits_Div64 rfl [] (fun hcl=>?_)
 have hq:IntKind.u64.wrap (lo.tdiv d)=lo / d:=by
  rw [Int.tdiv_eq_ediv_of_nonneg h.1]
  have h1:lo / d≤lo:=Int.ediv_le_self _ h.1
  have h2:0≤lo / d:=Int.ediv_nonneg h.1 (by omega)
  have:=h.2
  exact wrapu64 h2 (by omega)
 have hr:lo.tmod d=lo % d:=Int.tmod_eq_emod_of_nonneg h.1
 have h0 : ¬ d=0:=by omega
 have hb:(d==0)=false:=by simpa using h0
 have h1:decide (d≤0)=false:=by simp; omega
 have h2:((0:Int)==0)=true:=rfl
 simp only [go_sem,hb,h0,h1,h2,hq,hr]
 exact Same.mk1
theorem num_part_c (G:Good P F) {n up down:Int} {H:AH} (hn:0≤n) (hu:0≤up) (hd:0<down) (h:n*up≤9223372036854775807) (hn':n≤9223372036854775807) (hu':up≤9223372036854775807) (hd':down≤9223372036854775807) :
  ACalls P F.num_part [i64 n,i64 up,i64 down] H (fun v H'=>v=.tup [i64 (n*up / down),u64 (n*up % down)]∧Same H H'):=by
 refine fn_rule G.mixed G.num_part rfl [] (fun hcl=>?_)
 have c1:decide (n<0)=false:=by simp; omega
 have c2:decide (up<0)=false:=by simp; omega
 have c3:decide (down≤0)=false:=by simp; omega
 have w1:IntKind.u64.wrap n=n:=wrapu64 (by omega) (by omega)
 have w2:IntKind.u64.wrap up=up:=wrapu64 (by omega) (by omega)
 have w3:IntKind.u64.wrap down=down:=wrapu64 (by omega) (by omega)
 have hnn:0≤n*up:=Int.mul_nonneg hn hu
 have e0:n*up / 18446744073709551616=0:=by omega
 have e1:n*up % 18446744073709551616=n*up:=by omega
 have c4:decide ((0:Int) ≥ down)=false:=by simp; omega
 have hq0:0≤n*up / down:=Int.ediv_nonneg hnn (by omega)
 have hq1:n*up / down≤n*up:=Int.ediv_le_self _ hnn
 simp only [go_sem,c1,c2,c3,w1,w2]
 refine CA_s [] (Mul64_c G ⟨hn,by omega⟩ ⟨hu,by omega⟩) ?_
 rintro _ H1 ⟨rfl,h1⟩ _ _
 have h1:=h1.of_mk
 simp only [go_sem,e0,e1,w3,c4]
 refine CA_s [] (Div64_c G ⟨hnn,by omega⟩ hd) ?_
 rintro _ H2 ⟨rfl,h2⟩ _ _
 have h2:=h1.trans h2.of_mk
 simp only [go_sem]
 refine CA_s [] (num_signed_c G ⟨hq0,by omega⟩) ?_
 rintro _ H3 ⟨rfl,h3⟩ _ _
 have h3:=h2.trans h3.of_mk
 simp only [go_sem]
 exact h3.mk'
theorem num_Frac_c (G:Good P F) {n up down:Int} {H:AH} (hn:0≤n) (hu:0≤up) (hd:0<down) (h:n*up≤9223372036854775807) (hn':n≤9223372036854775807) (hu':up≤9223372036854775807) (hd':down≤9223372036854775807) :
  ACalls P F.num_Frac [i64 n,i64 up,i64 down] H (fun v H'=>v=i64 (frac n up down)∧Same H H'):=by
 refine fn_rule G.mixed G.num_Frac rfl [] (fun hcl=>?_)
 simp only [go_sem]
 refine CA_s [] (num_part_c G hn hu hd h hn' hu' hd') ?_
 rintro _ H1 ⟨rfl,h1⟩ _ _
 simp only [go_sem]
 exact ⟨by unfold frac; rw [part_small hn hu hd (by unfold maxI; omega)],h1.of_mk.mk'⟩
theorem num_FracUp_c (G:Good P F) {n up down:Int} {H:AH} (hn:0≤n) (hu:0≤up) (hd:0<down) (h:n*up≤4611686018427387903) (hn':n≤9223372036854775807) (hu':up≤9223372036854775807) (hd':down≤9223372036854775807) :
  ACalls P F.num_FracUp [i64 n,i64 up,i64 down] H (fun v H'=>v=i64 (fracUp n up down)∧Same H H'):=by
 refine fn_rule G.mixed G.num_FracUp rfl [] (fun hcl=>?_)
 have hnn:0≤n*up:=Int.mul_nonneg hn hu
 have hq0:0≤n*up / down:=Int.ediv_nonneg hnn (by omega)
 have hq1:n*up / down≤n*up:=Int.ediv_le_self _ hnn
 have hp:=part_small hn hu hd (by unfold maxI; omega)
 simp only [go_sem]
 refine CA_s [] (num_part_c G hn hu hd (by omega) hn' hu' hd') ?_
 rintro _ H1 ⟨rfl,h1⟩ _ _
 have h1:=h1.of_mk
 simp only [go_sem]
 refine EI_i (fun c=>?_) (fun c=>?_)
 ·have c:0<n*up % down:=by simpa using c
  simp only [go_sem]
  refine CA_s [] (num_Add_c G (by omega) (by omega)) ?_
  rintro _ H2 ⟨rfl,h2⟩ _ _
  simp only [go_sem]
  refine ⟨?_,(h1.trans h2.of_mk).mk'⟩
  unfold fracUp
  rw [hp]
  simp only
  rw [if_pos c]
  unfold maxI
  congr 1
  omega
 ·have c : ¬ 0<n*up % down:=by simpa using c
  simp only [go_sem]
  refine ⟨?_,h1.mk'⟩
  unfold fracUp
  rw [hp]
  simp only
  rw [if_neg c]
end Go.Ab

namespace Go.Ab
open Go Gh
variable {P : Program} {F : Nums}
theorem EMent_i {H:AH} {r:Nat} {n:Nm} {m:List Int→Option AV} {k zero:AV} {key:List Int} {f:AV→AH→Prop} {u:T (H,f)} (hm:H.f n=some (.mp r m)) (hk:keyOf r k=some key)
  (h : ∀ b,f (.tup [(m key).getD zero,.int .i64 b]) (H.set n (.mpb r (mset m key (some ((m key).getD zero))) key b))):EMent H r (.map n) k zero f u:=by
 unfold EMent
 simp only [hk,hm]
 exact ⟨trivial,h⟩
structure NmsOk (nh na:Nm) (ni:Int→Nm):Prop where
 h:nh.t≠0
 a:na.t≠0
 i : ∀ j,(ni j).t≠0
 ha:nh≠na
 hi : ∀ j,nh≠ni j
 ai : ∀ j,na≠ni j
 inj : ∀ j k,ni j=ni k→j=k
abbrev tp (F:Nums) (nh na:Nm) (ni:Int→Nm):HeapP:=⟨nh,na,ni,2,5,.fn F.timer_less [],tmK,tmC,tmLt⟩
theorem HeapRaw.sl {p:HeapP} {v:Int} {n:Nat} {g:Nat→Mk} {H:AH} (h:HeapRaw p v n g H) (hn:0<n) : ∃ u c,u<v∧H.f p.nh=some (.row 3 (cs [p.less,.slice (p.ni u) p.e 0 n,.map p.na]))∧n*p.e≤c∧H.f (p.ni u)=some (.row c (rowOf p.e p.cells g)):=by
 obtain ⟨sl,h1,h2 | ⟨u,c,h3,h4,h5,h6⟩⟩:=h.row
 ·omega
 ·subst h4; exact ⟨u,c,h3,h1,h5,h6⟩
theorem rowOf_turn {α:Type} {e:Nat} {cells:α→List AV} {g:Nat→α} {i:Nat} {x:α} (h0:0<e) (hl:(cells x).length=e):updN (rowOf e cells g) (i*e) (cells x)=rowOf e cells (fun k=>if k=i then x else g k) :=
 rowOf_updN (j:=0) (x:=x) (by omega) h0 fun k hk=>by
  rw [if_pos ⟨Nat.zero_le _,by omega⟩,Nat.sub_zero]
theorem at_swp {ky:Mk→List Int} {n:Nat} {g:Nat→Mk} {m:List Int→Option AV} (h1 : ∀ i,i<n→m (ky (g i))=some (i64 i)) (h2 : ∀ k x,m k=some x → ∃ i,i<n∧ky (g i)=k∧x=i64 i)
  (inj : ∀ i j,i<n→j<n→ky (g i)=ky (g j)→i=j) {i j:Nat} (hi:i<n) (hj:j<n) {a b:Option AV} :
  (∀ k,k<n→mset (mset (mset (mset m (ky (g j)) a) (ky (g j)) (some (i64 i))) (ky (g i)) b) (ky (g i)) (some (i64 j)) (ky (swp g i j k))=some (i64 k)) ∧
  (∀ k x,mset (mset (mset (mset m (ky (g j)) a) (ky (g j)) (some (i64 i))) (ky (g i)) b) (ky (g i)) (some (i64 j)) k=some x → ∃ l,l<n∧ky (swp g i j l)=k∧x=i64 l):=by
 constructor
 ·intro k hk
  rw [swp_tr]
  unfold mset tr
  by_cases e1:k=j
  ·rw [if_pos e1,if_pos rfl,e1]
  ·rw [if_neg e1]
   by_cases e2:k=i
   ·rw [if_pos e2,e2]
    have:ky (g j)≠ky (g i):=fun e=>e1 (e2.trans (inj _ _ hj hi e).symm)
    rw [if_neg this,if_neg this,if_pos rfl]
   ·rw [if_neg e2]
    have k1:ky (g k)≠ky (g i):=fun e=>e2 (inj _ _ hk hi e)
    have k2:ky (g k)≠ky (g j):=fun e=>e1 (inj _ _ hk hj e)
    rw [if_neg k1,if_neg k1,if_neg k2,if_neg k2]
    exact h1 k hk
 ·intro k x hx
  unfold mset at hx
  by_cases k1:k=ky (g i)
  ·rw [if_pos k1] at hx
   refine ⟨j,hj,?_,(Option.some.inj hx).symm⟩
   rw [swp_tr]; unfold tr; rw [if_pos rfl]; exact k1.symm
  ·rw [if_neg k1,if_neg k1] at hx
   by_cases k2:k=ky (g j)
   ·rw [if_pos k2] at hx
    have hne:i≠j:=fun e=>k1 (by rw [k2,e])
    refine ⟨i,hi,?_,(Option.some.inj hx).symm⟩
    rw [swp_tr]; unfold tr; rw [if_neg hne,if_pos rfl]; exact k2.symm
   ·rw [if_neg k2,if_neg k2] at hx
    obtain ⟨l,hl,hk,hxl⟩:=h2 k x hx
    have e1:l≠i:=fun e=>k1 (by rw [← hk,e])
    have e2:l≠j:=fun e=>k2 (by rw [← hk,e])
    refine ⟨l,hl,?_,hxl⟩
    rw [swp_tr]; unfold tr; rw [if_neg e2,if_neg e1]; exact hk
theorem theap_swap_c (G:Good P F) {nh na:Nm} {ni:Int→Nm} (hN:NmsOk nh na ni) {v:Int} {n:Nat} {g:Nat→Mk} {H:AH} (h:HeapRaw (tp F nh na ni) v n g H) {i j:Nat} (hi:i<n) (hj:j<n) :
  ACalls P F.theap_swap [.ptr nh 0,i64 i,i64 j] H (fun _ H'=>HeapRaw (tp F nh na ni) v n (swp g i j) H'∧Fra (tp F nh na ni).own H H'):=by
 refine fn_rule G.mixed G.theap_swap rfl [] (fun hcl=>?_)
 obtain ⟨u,c,hu,h1,h2,h3⟩:=h.sl (by omega)
 obtain ⟨m,m1,m2,m3⟩:=h.at_
 simp only at h1 h2 h3 m1 m2 m3
 have i0:(0:Int)≤(i:Int):=by omega
 have i1:(i:Int)<(n:Int):=by omega
 have j0:(0:Int)≤(j:Int):=by omega
 have j1:(j:Int)<(n:Int):=by omega
 have i5:i*5+5≤c:=by omega
 have j5:j*5+5≤c:=by omega
 have i2:i*5+2≤c:=by omega
 have j2:j*5+2≤c:=by omega
 have q1:=hN.hi u
 have q2:=hN.ai u
 have q3:=hN.ha
 have s1 : ∀ (g:Nat→Mk) (k:Nat) (x:Mk),updN (rowOf 5 tmC g) (k*5) [i64 x.2.1,i64 x.2.2,i64 x.1,i64 x.2.1,i64 x.2.2]=rowOf 5 tmC (fun l=>if l=k then x else g l):=fun g k x=>rowOf_turn (cells:=tmC) (by decide) rfl
 have s2:(if i=j then g i else g j)=g j:=by split <;> simp_all
 simp only [go_sem,h1,h3,i0,i1,j0,j1,i5,j5,i2,j2,Int.toNat_natCast,q1,s1,s2]
 refine EMent_i (m:=m) (key:=[(g j).2.1,(g j).2.2]) (by simp only [go_sem,q2,m1]) (by simp only [go_sem]) (fun b1=>?_)
 simp only [go_sem]
 refine EMent_i (m:=mset (mset m [(g j).2.1,(g j).2.2] (some ((m [(g j).2.1,(g j).2.2]).getD (AV.int IntKind.i64 0)))) [(g j).2.1,(g j).2.2] (some (i64 i))) (key:=[(g i).2.1,(g i).2.2]) (by simp only [go_sem]) (by simp only [go_sem]) (fun b2=>?_)
 simp only [go_sem]
 have hm:=at_swp m2 m3 h.inj hi hj (a:=some ((m [(g j).2.1,(g j).2.2]).getD (AV.int IntKind.i64 0))) (b:=some ((mset (mset m [(g j).2.1,(g j).2.2] (some ((m [(g j).2.1,(g j).2.2]).getD (AV.int IntKind.i64 0)))) [(g j).2.1,(g j).2.2] (some (i64 i)) [(g i).2.1,(g i).2.2]).getD (AV.int IntKind.i64 0)))
 refine ⟨⟨⟨_,?_,.inr ⟨u,c,hu,rfl,h2,?_⟩⟩,?_,⟨_,by simp only [go_sem]; rfl,hm.1,hm.2⟩,?_,h.le⟩,?_⟩
 ·simp only [go_sem,q3,q1,h1]
 ·simp only [go_sem,Ne.symm q2]
  rfl
 ·intro k hk
  have e1:ni k≠na:=fun e=>hN.ai k e.symm
  have e2:ni k≠ni u:=fun e=>by have:=hN.inj _ _ e; omega
  simp only [go_sem,e1,e2]
  exact h.fresh k hk
 ·intro a b ha hb he
  rw [swp_tr,swp_tr] at he
  have:=h.inj _ _ (tr_lt hi hj ha) (tr_lt hi hj hb) he
  have:=congrArg (Gh.tr i j) this
  rwa [tr_tr,tr_tr] at this
 ·exact (Fra.set (Fra.set Fra.mk1 (.inl (.inr (.inr ⟨u,rfl⟩)))) (.inl (.inr (.inl rfl))))
end Go.Ab

namespace Go.Ab
open Go Gh
variable {P : Program} {F : Nums}
theorem rowOf_at2 {α:Type} {e:Nat} {cells:α→List AV} {g:Nat→α} {i a b:Nat} (hj:a+b<e):rowOf e cells g (i*e+a+b)=(cells (g i)).getD (a+b) .any:=by
 rw [Nat.add_assoc]; exact rowOf_at hj
attribute [go_sem] rowOf_at2
theorem two0:((2:Int)=0)=False:=by simp
theorem wrapP {i:Nat} (h0:0<i) (h:i<4294967296):IntKind.i64.wrap ((i:Int)-1)=((i-1:Nat):Int):=by
 rw [wrap64 (by omega) (by omega)]; omega
theorem wrapD {i:Nat} (h:i<4294967296):IntKind.i64.wrap (((i:Nat):Int).tdiv 2)=((i / 2:Nat):Int):=by
 have e:(((i:Nat):Int).tdiv 2)=((i / 2:Nat):Int):=by rw [Int.tdiv_eq_ediv_of_nonneg (by omega)]; omega
 rw [e,wrap64 (by omega) (by omega)]
theorem HeapRaw.mk' {p:HeapP} {v:Int} {n:Nat} {g:Nat→Mk} {H:AH} {s:List Nm} (h:HeapRaw p v n g H):HeapRaw p v n g ⟨H.f,H.k,s⟩:=h.congr fun _ _=>rfl
def Kept (ky:Mk→List Int) (n:Nat) (g g':Nat→Mk):Prop := ∀ t,Holds ky n g t→Holds ky n g' t
theorem tmOrd:Ord tmLt:=by
 unfold tmLt CS.tLt
 refine ⟨fun a=>?_,fun a b c=>?_,fun a b c=>?_⟩
 ·rw [Bool.eq_false_iff]
  simp only [ne_eq,Bool.or_eq_true,Bool.and_eq_true,decide_eq_true_eq]
  omega
 ·simp only [Bool.or_eq_true,Bool.and_eq_true,decide_eq_true_eq]
  omega
 ·simp only [← Bool.not_eq_true,Bool.or_eq_true,Bool.and_eq_true,decide_eq_true_eq]
  omega
theorem theap_up_c (G:Good P F) {nh na:Nm} {ni:Int→Nm} (hN:NmsOk nh na ni) {v:Int} {n:Nat} {g:Nat→Mk} {H:AH} (h:HeapRaw (tp F nh na ni) v n g H) {i:Nat} (hi:i<n) (hh:Hole tmLt n g i) :
  ACalls P F.theap_up [.ptr nh 0,i64 i] H (fun r H'=>(∃ b,r=.bool b ∧ ∃ g',HeapRaw (tp F nh na ni) v n g' H'∧Kept tmK n g g'∧(b=true→HeapOk tmLt n g')∧(b=false→g'=g∧DownOk tmLt n g i))∧Fra (tp F nh na ni).own H H'):=by
 refine fn_rule G.mixed G.theap_up rfl [] (fun hcl=>?_)
 simp only [go_sem]
 refine C_loop (fun k l H' => ∃ (g':Nat→Mk) (i':Nat),k=i'∧i'<n∧HeapRaw (tp F nh na ni) v n g' H'∧Kept tmK n g g'∧((i'=i∧g'=g)∨(i'<i∧UpOk tmLt n g' i'))∧Fra (tp F nh na ni).own H H'∧l=[(0,.ptr nh 0),(1,i64 i'),(5,i64 i)]) i
  ⟨g,i,rfl,hi,h.congr (fun _ _=>rfl),fun _ h=>h,.inl ⟨rfl,rfl⟩,Fra.mk1,rfl⟩ ?_
 rintro k _ H1 ⟨g',i',rfl,hi',h1,hk1,hor,hf1,rfl⟩ _ hcl1
 refine ⟨[],?_⟩
 have hle:n<2147483648:=h.le
 obtain ⟨u,c,hu,r1,r2,r3⟩:=h1.sl (by omega)
 simp only at r1 r2 r3
 have q1:=hN.hi u
 have fin : ∀ (H':AH),Fra (tp F nh na ni).own H H'→HeapRaw (tp F nh na ni) v n g' H'→(k=0∨tmLt (g' k) (g' (par k))=false) →
   (∃ b,AV.bool ((k:Int) != (i:Int))=.bool b ∧ ∃ g',HeapRaw (tp F nh na ni) v n g' H'∧Kept tmK n g g'∧(b=true→HeapOk tmLt n g')∧(b=false→g'=g∧DownOk tmLt n g i))∧Fra (tp F nh na ni).own H H':=by
  intro H' hf hr hc
  refine ⟨⟨_,rfl,g',hr,hk1,fun hb=>?_,fun hb=>?_⟩,hf⟩
  ·have hne:k≠i:=by intro e; subst e; simp at hb
   rcases hor with ⟨e,_⟩ | ⟨_,hup⟩
   ·exact absurd e hne
   ·exact hup.ok (by rcases hc with hc | hc; exact .inl hc; exact .inr (.inr hc))
  ·have he:k=i:=by simp at hb; omega
   rcases hor with ⟨_,e⟩ | ⟨e,_⟩
   ·subst e; subst he
    exact ⟨rfl,hh.down hc⟩
   ·omega
 simp only [go_sem]
 refine EI_i (fun c1=>?_) (fun c1=>?_)
 rotate_left
 ·simp only [go_sem]
  have c1:k=0:=by simp at c1; omega
  exact fin _ hf1.mk' (h1.congr (fun _ _=>rfl)) (.inl c1)
 have c1:0<k:=by simp at c1; omega
 have i0:(0:Int)≤(k:Int):=by omega
 have i1:(k:Int)<(n:Int):=by omega
 have p0:(0:Int)≤(((k-1) / 2:Nat):Int):=by omega
 have p1:(((k-1) / 2:Nat):Int)<(n:Int):=by omega
 have i5:k*5+2+3≤c:=by omega
 have p5:(k-1) / 2*5+2+3≤c:=by omega
 have w1:=wrapP c1 (by omega)
 have w2:=wrapD (i:=k-1) (by omega)
 simp only [go_sem,r1,r3,i0,i1,p0,p1,i5,p5,Int.toNat_natCast,q1,two0,w1,w2]
 refine CA_s [] (timer_less_c G (a:=g' k) (b:=g' ((k-1) / 2))) ?_
 rintro _ H2 ⟨rfl,h2⟩ _ _
 have h2:=h2.of_mk
 have hr2:HeapRaw (tp F nh na ni) v n g' H2:=h1.congr fun m hm=>h2.at_ m (old_of (by rcases hm with rfl | rfl | ⟨j,rfl⟩; exact hN.h; exact hN.a; exact hN.i j))
 have hf2:=hf1.trans h2.fra
 simp only [go_sem]
 refine EI_i (fun c2=>?_) (fun c2=>?_)
 rotate_left
 ·simp only [go_sem]
  exact fin _ hf2.mk' (hr2.congr (fun _ _=>rfl)) (.inr c2)
 simp only [go_sem,two0,w1,w2]
 refine CA_s [] (theap_swap_c G hN (hr2.mk' (s:=[])) hi' (show (k-1) / 2<n by omega)) ?_
 rintro _ H3 ⟨h3,hf3⟩ _ _
 simp only [go_sem,two0,w1,w2]
 refine ⟨par k,_,rfl,par_lt c1,swp g' k (par k),par k,rfl,by have:=par_lt c1; omega,h3.congr (fun _ _=>rfl),fun t ht=>(hk1 t ht).swp hi' (by have:=par_lt c1; omega),.inr ⟨?_,?_⟩,(hf2.trans hf3.of_mk).mk',rfl⟩
 ·have:=par_lt c1
  rcases hor with ⟨e,_⟩ | ⟨e,_⟩ <;> omega
 ·have hup:UpOk tmLt n g' k:=by
   rcases hor with ⟨e1,e2⟩ | ⟨_,e⟩
   ·subst e1; subst e2; exact hh.up tmOrd c1 c2
   ·exact e
  exact hup.step tmOrd c1 c2
end Go.Ab

namespace Go.Ab
open Go Gh
variable {P : Program} {F : Nums}
structure Lst (lt:Mk→Mk→Bool) (n:Nat) (g:Nat→Mk) (i c a:Nat):Prop where
 le:a<n
 at_:a=i∨(0<a∧par a=i∧lt (g a) (g i)=true)
 all : ∀ x,0<x→x<n→par x=i→x<c→lt (g x) (g a)=false
theorem Lst.start {lt:Mk→Mk→Bool} {n:Nat} {g:Nat→Mk} {i:Nat} (hi:i<n):Lst lt n g i (2*i+1) i :=
 ⟨hi,.inl rfl,fun x h1 _ h3 h4=>by unfold par at h3; omega⟩
theorem Lst.up {lt:Mk→Mk→Bool} (ho:Ord lt) {n:Nat} {g:Nat→Mk} {i c a:Nat} (h:Lst lt n g i c a) (h0:0<c) (hc:c<n) (hp:par c=i) (hl:lt (g c) (g a)=true):Lst lt n g i (c+1) c :=
 ⟨hc,.inr ⟨h0,hp,by
  rcases h.at_ with e | ⟨_,_,e⟩
  ·rw [← e]; exact hl
  ·exact ho.tr _ _ _ hl e⟩,fun x h1 h2 h3 h4=>by
  by_cases e:x=c
  ·subst e; exact ho.irr _
  ·exact ho.nlt hl (h.all x h1 h2 h3 (by omega))⟩
theorem Lst.on {lt:Mk→Mk→Bool} {n:Nat} {g:Nat→Mk} {i c a:Nat} (h:Lst lt n g i c a) (hl:c<n→lt (g c) (g a)=false):Lst lt n g i (c+1) a :=
 ⟨h.le,h.at_,fun x h1 h2 h3 h4=>by
  by_cases e:x=c
  ·subst e; exact hl h2
  ·exact h.all x h1 h2 h3 (by omega)⟩
theorem HeapRaw.same {nh na:Nm} {ni:Int→Nm} {r e:Nat} {less:AV} {ky:Mk→List Int} {cells:Mk→List AV} {lt:Mk→Mk→Bool} (hN:NmsOk nh na ni) {v:Int} {n:Nat} {g:Nat→Mk} {H H':AH} (h:HeapRaw ⟨nh,na,ni,r,e,less,ky,cells,lt⟩ v n g H) (hs:Same H H'):HeapRaw ⟨nh,na,ni,r,e,less,ky,cells,lt⟩ v n g H' :=
 h.congr fun m hm=>hs.at_ m (old_of (by rcases hm with rfl | rfl | ⟨j,rfl⟩; exact hN.h; exact hN.a; exact hN.i j))
theorem theap_down_c (G:Good P F) {nh na:Nm} {ni:Int→Nm} (hN:NmsOk nh na ni) {v:Int} {n:Nat} {g:Nat→Mk} {H:AH} (h:HeapRaw (tp F nh na ni) v n g H) {i:Nat} (hi:i<n) (hh:DownOk tmLt n g i) :
  ACalls P F.theap_down [.ptr nh 0,i64 i] H (fun _ H'=>(∃ g',HeapRaw (tp F nh na ni) v n g' H'∧Kept tmK n g g'∧HeapOk tmLt n g')∧Fra (tp F nh na ni).own H H'):=by
 refine fn_rule G.mixed G.theap_down rfl [] (fun hcl=>?_)
 have hle:n<2147483648:=h.le
 have q1:=hN.hi
 simp only [go_sem]
 refine C_loop (fun k l H' => ∃ (g':Nat→Mk) (i':Nat),k=n-i'∧i'<n∧HeapRaw (tp F nh na ni) v n g' H'∧Kept tmK n g g'∧DownOk tmLt n g' i'∧Fra (tp F nh na ni).own H H'∧l=[(0,.ptr nh 0),(1,i64 i')]) (n-i)
  ⟨g,i,rfl,hi,h.mk',fun _ h=>h,hh,Fra.mk1,rfl⟩ ?_
 rintro k _ H1 ⟨g',i',rfl,hi',h1,hk1,hd,hf1,rfl⟩ _ hcl1
 refine ⟨[],?_⟩
 have w1:IntKind.i64.wrap (2*(i':Int))=((2*i':Nat):Int):=by rw [wrap64 (by omega) (by omega)]; omega
 have w2:IntKind.i64.wrap (((2*i':Nat):Int)+1)=((2*i'+1:Nat):Int):=wrapS (by omega)
 have w3:IntKind.i64.wrap (((2*i':Nat):Int)+2)=((2*i'+2:Nat):Int):=by rw [wrap64 (by omega) (by omega)]; omega
 simp only [go_sem,w1,w2]
 refine C_loop (fun k l H' => ∃ (c a:Nat),k+c=2*i'+3∧2*i'+1≤c∧Lst tmLt n g' i' c a∧HeapRaw (tp F nh na ni) v n g' H'∧Fra (tp F nh na ni).own H H'∧l=[(0,.ptr nh 0),(1,i64 i'),(4,i64 a),(5,i64 c)]) 2
  ⟨2*i'+1,i',by omega,Nat.le_refl _,Lst.start hi',h1.mk',hf1.mk',rfl⟩ ?_
 rintro k _ H2 ⟨c,a,hkc,hc1,hlst,h2,hf2,rfl⟩ _ hcl2
 refine ⟨[],?_⟩
 obtain ⟨u,cc,hu,r1,r2,r3⟩:=h2.sl (by omega)
 simp only at r1 r2 r3
 have hpar:c<2*i'+3→par c=i':=by unfold par; omega
 simp only [go_sem,w1,w3]
 refine EI_i (fun c1=>?_) (fun c1=>?_)
 rotate_left
 ·have c1 : ¬ c≤2*i'+2:=by simp at c1; omega
  have hall : ∀ x,0<x→x<n→par x=i'→tmLt (g' x) (g' a)=false:=fun x h1 h2 h3=>hlst.all x h1 h2 h3 (by unfold par at h3; omega)
  simp only [go_sem]
  refine EI_i (fun e=>?_) (fun e=>?_)
  ·have e:a=i':=by simp at e; omega
   subst e
   simp only [go_sem]
   exact ⟨⟨g',h2.mk',hk1,hd.ok hall⟩,hf2.mk'⟩
  ·have e:a≠i':=by simp at e; omega
   obtain ⟨a0,ap,al⟩:0<a∧par a=i'∧tmLt (g' a) (g' i')=true:=by
    rcases hlst.at_ with h | h
    ·exact absurd h e
    ·exact h
   have han:=hlst.le
   have hpl:=par_lt a0
   simp only [go_sem]
   refine CA_s [] (theap_swap_c G hN (h2.mk' (s:=[])) hi' han) ?_
   rintro _ H3 ⟨h3,hf3⟩ _ _
   simp only [go_sem]
   exact ⟨n-a,_,rfl,by omega,swp g' i' a,a,rfl,han,h3.mk',fun t ht=>(hk1 t ht).swp hi' han,hd.step tmOrd a0 han ap al hall,(hf2.trans hf3.of_mk).mk',rfl⟩
 have c1:c≤2*i'+2:=by simp at c1; omega
 simp only [go_sem,r1]
 refine EI_i (fun c2=>?_) (fun c2=>?_)
 rotate_left
 ·have c2 : ¬ c<n:=by simp at c2; omega
  have hall : ∀ x,0<x→x<n→par x=i'→tmLt (g' x) (g' a)=false:=fun x h1 h2 h3=>hlst.all x h1 h2 h3 (by omega)
  simp only [go_sem]
  refine EI_i (fun e=>?_) (fun e=>?_)
  ·have e:a=i':=by simp at e; omega
   subst e
   simp only [go_sem]
   exact ⟨⟨g',h2.mk',hk1,hd.ok hall⟩,hf2.mk'⟩
  ·have e:a≠i':=by simp at e; omega
   obtain ⟨a0,ap,al⟩:0<a∧par a=i'∧tmLt (g' a) (g' i')=true:=by
    rcases hlst.at_ with h | h
    ·exact absurd h e
    ·exact h
   have han:=hlst.le
   have hpl:=par_lt a0
   simp only [go_sem]
   refine CA_s [] (theap_swap_c G hN (h2.mk' (s:=[])) hi' han) ?_
   rintro _ H3 ⟨h3,hf3⟩ _ _
   simp only [go_sem]
   exact ⟨n-a,_,rfl,by omega,swp g' i' a,a,rfl,han,h3.mk',fun t ht=>(hk1 t ht).swp hi' han,hd.step tmOrd a0 han ap al hall,(hf2.trans hf3.of_mk).mk',rfl⟩
 have c2:c<n:=by simp at c2; omega
 have i0:(0:Int)≤(c:Int):=by omega
 have i1:(c:Int)<(n:Int):=by omega
 have a0:(0:Int)≤(a:Int):=by omega
 have a1:(a:Int)<(n:Int):=by have:=hlst.le; omega
 have i5:c*5+2+3≤cc:=by omega
 have a5:a*5+2+3≤cc:=by have:=hlst.le; omega
 have w4:=wrapS (i:=c) (by omega)
 simp only [go_sem,r1,r3,i0,i1,a0,a1,i5,a5,Int.toNat_natCast]
 refine CA_s [] (timer_less_c G (a:=g' c) (b:=g' a)) ?_
 rintro _ H3 ⟨rfl,h3⟩ _ _
 have hr3:=h2.same hN h3.of_mk
 have hf3:=hf2.trans h3.of_mk.fra
 simp only [go_sem]
 refine EI_i (fun c3=>?_) (fun c3=>?_)
 ·simp only [go_sem,w4]
  exact ⟨k-1,_,rfl,by omega,c+1,c,by omega,by omega,hlst.up tmOrd (by omega) c2 (hpar (by omega)) c3,hr3.mk',hf3.mk',rfl⟩
 ·simp only [go_sem,w4]
  exact ⟨k-1,_,rfl,by omega,c+1,a,by omega,by omega,hlst.on (fun _=>c3),hr3.mk',hf3.mk',rfl⟩
theorem theap_fix_c (G:Good P F) {nh na:Nm} {ni:Int→Nm} (hN:NmsOk nh na ni) {v:Int} {n:Nat} {g:Nat→Mk} {H:AH} (h:HeapRaw (tp F nh na ni) v n g H) {i:Nat} (hi:i<n) (hh:Hole tmLt n g i) :
  ACalls P F.theap_fix [.ptr nh 0,i64 i] H (fun _ H'=>(∃ g',HeapRaw (tp F nh na ni) v n g' H'∧Kept tmK n g g'∧HeapOk tmLt n g')∧Fra (tp F nh na ni).own H H'):=by
 refine fn_rule G.mixed G.theap_fix rfl [] (fun hcl=>?_)
 simp only [go_sem]
 refine CA_s [] (theap_up_c G hN (h.mk' (s:=[])) hi hh) ?_
 rintro _ H1 ⟨⟨b,rfl,g1,h1,hk1,ht,hf⟩,hf1⟩ _ _
 simp only [go_sem]
 cases b with
 | true =>
  simp only [go_sem,Bool.not_true]
  exact ⟨⟨g1,h1.mk',hk1,ht rfl⟩,hf1.of_mk.mk'⟩
 | false =>
  obtain ⟨e,hd⟩:=hf rfl
  subst e
  simp only [go_sem,Bool.not_false]
  refine CA_s [] (theap_down_c G hN (h1.mk' (s:=[])) hi hd) ?_
  rintro _ H2 ⟨⟨g2,h2,hk2,ho⟩,hf2⟩ _ _
  simp only [go_sem]
  exact ⟨⟨g2,h2.mk',hk2,ho⟩,(hf1.of_mk.trans hf2.of_mk).mk'⟩
end Go.Ab

namespace Go.Ab
open Go Gh
variable {P : Program} {F : Nums}
def FinT (t:List Int→Option Mk) (N:Nat):Prop := ∃ L:List (List Int),L.length≤N ∧ ∀ k x,t k=some x→k∈L
theorem nodup_le {α:Type} [DecidableEq α] : ∀ (l L:List α),l.Nodup→(∀ x∈l,x∈L)→l.length≤L.length
 | [],_,_,_=>by simp
 | a::l,L,hn,hs=>by
  rw [List.nodup_cons] at hn
  have ha:=hs a (by simp)
  have h1:=nodup_le l (L.erase a) hn.2 fun x hx=>by
   have hne:x≠a:=fun e=>hn.1 (e ▸ hx)
   exact (List.mem_erase_of_ne hne).2 (hs x (by simp [hx]))
  rw [List.length_erase_of_mem ha] at h1
  have:0<L.length:=List.length_pos_of_mem ha
  simp only [List.length_cons]; omega
theorem Holds.le {ky:Mk→List Int} {n:Nat} {g:Nat→Mk} {t:List Int→Option Mk} {N:Nat} (h:Holds ky n g t) (hf:FinT t N):n≤N:=by
 obtain ⟨L,hL,hm⟩:=hf
 have h1:=nodup_le ((List.range n).map fun i=>ky (g i)) L ?_ ?_
 ·simp at h1; omega
 ·rw [List.nodup_iff_pairwise_ne,List.pairwise_map]
  refine (List.pairwise_lt_range (n:=n)).imp_of_mem ?_
  intro a b ha hb hab he
  have:=h.inj a b (by simpa using ha) (by simpa using hb) he
  omega
 ·intro x hx
  simp only [List.mem_map,List.mem_range] at hx
  obtain ⟨i,hi,rfl⟩:=hx
  exact hm _ _ (h.mem i hi)
def tset (t:List Int→Option Mk) (k:List Int) (x:Option Mk):List Int→Option Mk:=fun j=>if j=k then x else t j
theorem Holds.turn {ky:Mk→List Int} {n:Nat} {g:Nat→Mk} {t:List Int→Option Mk} (h:Holds ky n g t) {i:Nat} (hi:i<n) {x:Mk} (hx:ky x=ky (g i)):Holds ky n (fun k=>if k=i then x else g k) (tset t (ky x) (some x)) where
 mem k hk:=by
  unfold tset
  by_cases e:k=i
  ·simp only [e,if_true]
  ·simp only [e,if_false]
   have:ky (g k)≠ky x:=fun he=>e (h.inj _ _ hk hi (he.trans hx))
   rw [if_neg this]; exact h.mem k hk
 sur k y hy:=by
  unfold tset at hy
  split at hy
  ·rename_i e
   simp only [Option.some.injEq] at hy
   subst hy
   exact ⟨e.symm,i,hi,by simp⟩
  ·rename_i e
   obtain ⟨h1,j,hj,h2⟩:=h.sur k y hy
   refine ⟨h1,j,hj,?_⟩
   have:j≠i:=fun he=>e (by rw [hx,← h1,← h2,he])
   simp only [this,if_false,h2]
 inj a b ha hb he:=by
  have e : ∀ k,ky (if k=i then x else g k)=ky (g k):=fun k=>by split <;> simp_all
  rw [e,e] at he
  exact h.inj a b ha hb he
theorem Holds.snoc {ky:Mk→List Int} {n:Nat} {g:Nat→Mk} {t:List Int→Option Mk} (h:Holds ky n g t) {x:Mk} (hx:t (ky x)=none):Holds ky (n+1) (fun k=>if k=n then x else g k) (tset t (ky x) (some x)) where
 mem k hk:=by
  unfold tset
  by_cases e:k=n
  ·simp only [e,if_true]
  ·simp only [e,if_false]
   have hk':k<n:=by omega
   have:ky (g k)≠ky x:=fun he=>by have:=h.mem k hk'; rw [he,hx] at this; cases this
   rw [if_neg this]; exact h.mem k hk'
 sur k y hy:=by
  unfold tset at hy
  split at hy
  ·rename_i e
   simp only [Option.some.injEq] at hy
   subst hy
   exact ⟨e.symm,n,by omega,by simp⟩
  ·obtain ⟨h1,j,hj,h2⟩:=h.sur k y hy
   exact ⟨h1,j,by omega,by rw [if_neg (by omega),h2]⟩
 inj a b ha hb he:=by
  have no : ∀ k,k<n→ky (g k)≠ky x:=fun k hk e=>by have:=h.mem k hk; rw [e,hx] at this; cases this
  by_cases e1:a=n <;> by_cases e2:b=n
  ·omega
  ·simp only [e1,e2,if_true,if_false] at he
   exact absurd he.symm (no b (by omega))
  ·simp only [e1,e2,if_true,if_false] at he
   exact absurd he (no a (by omega))
  ·simp only [e1,e2,if_false] at he
   exact h.inj a b (by omega) (by omega) he
theorem Holds.pop {ky:Mk→List Int} {n:Nat} {g:Nat→Mk} {t:List Int→Option Mk} (h:Holds ky (n+1) g t):Holds ky n g (tset t (ky (g n)) none) where
 mem k hk:=by
  unfold tset
  have:ky (g k)≠ky (g n):=fun he=>by have:=h.inj k n (by omega) (by omega) he; omega
  rw [if_neg this]; exact h.mem k (by omega)
 sur k y hy:=by
  unfold tset at hy
  split at hy
  ·cases hy
  ·rename_i e
   obtain ⟨h1,j,hj,h2⟩:=h.sur k y hy
   refine ⟨h1,j,?_,h2⟩
   have:j≠n:=fun he=>e (by rw [← h1,← h2,he])
   omega
 inj a b ha hb he:=h.inj a b (by omega) (by omega) he
theorem mem_of_m {p:HeapP} {v:Int} {n:Nat} {g:Nat→Mk} {H:AH} (h:HeapRaw p v n g H) {t:List Int→Option Mk} (ht:Holds p.ky n g t) {m:List Int→Option AV} (hm:H.f p.na=some (.mp p.r m)) (k:List Int) :
  (t k=none∧m k=none) ∨ ∃ i,i<n∧p.ky (g i)=k∧t k=some (g i)∧m k=some (i64 i):=by
 obtain ⟨m',h1,h2,h3⟩:=h.at_
 rw [hm] at h1
 simp only [Option.some.injEq,AO.mp.injEq,true_and] at h1
 subst h1
 cases hk:m k with
 | none =>
  left
  refine ⟨?_,rfl⟩
  cases htk:t k with
  | none=>rfl
  | some x =>
   obtain ⟨e1,i,hi,e2⟩:=ht.sur k x htk
   have:=h2 i hi
   rw [e2,e1,hk] at this; cases this
 | some x =>
  right
  obtain ⟨i,hi,e1,e2⟩:=h3 k x hk
  exact ⟨i,hi,e1,by rw [← e1]; exact ht.mem i hi,by rw [e2]⟩
attribute [go_sem] List.drop_nil List.drop_zero List.drop_succ_cons bmp_f Bool.not_false Bool.not_true
theorem nold {H:AH} {i q:Int} (hi:H.k≤i) : ¬ old H ⟨0,i,q⟩:=fun h=>by have:=h rfl; simp only at this; omega
theorem tmp_nei {i i' q q':Int} (h:i≠i'):(⟨0,i,q⟩:Nm)≠⟨0,i',q'⟩:=by simp [h]
theorem theap_Get_c (G:Good P F) {nh na:Nm} {ni:Int→Nm} (hN:NmsOk nh na ni) {v:Int} {t:List Int→Option Mk} {H:AH} (h:HeapAt (tp F nh na ni) v t H) {kd id:Int} :
  ACalls P F.theap_Get [.ptr nh 0,.agg [i64 kd,i64 id]] H (fun r H'=>r=.tup [.agg (tmM ((t [kd,id]).getD (0,0,0))),.bool (t [kd,id]).isSome]∧Same H H'):=by
 refine fn_rule G.mixed G.theap_Get rfl [] (fun hcl=>?_)
 obtain ⟨n,g,hr,ho,ht⟩:=h
 obtain ⟨m,m1,m2,m3⟩:=hr.at_
 have hm:=mem_of_m hr ht m1 [kd,id]
 obtain ⟨sl,r1,r2⟩:=hr.row
 simp only at m1 r1 r2 hm
 have n1:(⟨0,H.k,0⟩:Nm)≠⟨0,H.k,1⟩:=tmp_ne (by decide)
 have n2:(⟨0,H.k,1⟩:Nm)≠⟨0,H.k+1,0⟩:=tmp_nei (by omega)
 have nh0 : ∀ q,nh≠⟨0,H.k,q⟩:=fun q e=>hN.h (by rw [e])
 have na0 : ∀ q,na≠⟨0,H.k,q⟩:=fun q e=>hN.a (by rw [e])
 have ni0 : ∀ j q,ni j≠⟨0,H.k,q⟩:=fun j q e=>hN.i j (by rw [e])
 rcases hm with ⟨t0,m0⟩ | ⟨i,hi,hk,ti,mi⟩
 ·simp only [go_sem,n1,nh0,na0,r1,m1,m0,n2]
  refine ⟨by simp only [t0,Option.getD_none,Option.isSome_none],?_⟩
  exact ((((Same.mk' (Same.refl H)).set (nold (Int.le_refl _))).set (nold (Int.le_refl _))).bmp.set (nold (by omega))).bmp.set (nold (Int.le_refl _))
 ·obtain ⟨u,c,hu,q1,q2,q3⟩:=hr.sl (by omega)
  simp only at q1 q2 q3
  have i0:(0:Int)≤(i:Int):=by omega
  have i1:(i:Int)<(n:Int):=by omega
  have i5:i*5+2+3≤c:=by omega
  simp only [go_sem,n1,nh0,na0,ni0,q1,q3,m1,mi,i0,i1,i5,Int.toNat_natCast]
  refine ⟨by simp only [ti,Option.getD_some,Option.isSome_some],?_⟩
  exact (((Same.mk' (Same.refl H)).set (nold (Int.le_refl _))).set (nold (Int.le_refl _))).bmp.set (nold (Int.le_refl _))
theorem theap_Min_c (G:Good P F) {nh na:Nm} {ni:Int→Nm} (hN:NmsOk nh na ni) {v:Int} {t:List Int→Option Mk} {H:AH} (h:HeapAt (tp F nh na ni) v t H) :
  ACalls P F.theap_Min [.ptr nh 0] H (fun r H'=>Same H H'∧((r=.tup [.agg [i64 0,i64 0],.agg [i64 0,i64 0,i64 0],.bool false] ∧ ∀ k,t k=none) ∨
   ∃ x,r=.tup [.agg [i64 x.2.1,i64 x.2.2],.agg (tmM x),.bool true]∧t (tmK x)=some x ∧ ∀ k y,t k=some y→tmLt y x=false)):=by
 refine fn_rule G.mixed G.theap_Min rfl [] (fun hcl=>?_)
 obtain ⟨n,g,hr,ho,ht⟩:=h
 obtain ⟨sl,r1,r2⟩:=hr.row
 simp only at r1 r2
 have n1:(⟨0,H.k,0⟩:Nm)≠⟨0,H.k,1⟩:=tmp_ne (by decide)
 have n2:(⟨0,H.k,1⟩:Nm)≠⟨0,H.k+1,0⟩:=tmp_nei (by omega)
 have n3:(⟨0,H.k,0⟩:Nm)≠⟨0,H.k+1,0⟩:=tmp_nei (by omega)
 have n1':=n1.symm
 have n2':=n2.symm
 have n3':=n3.symm
 have nh0 : ∀ q,nh≠⟨0,H.k,q⟩:=fun q e=>hN.h (by rw [e])
 have na0 : ∀ q,na≠⟨0,H.k,q⟩:=fun q e=>hN.a (by rw [e])
 have ni0 : ∀ j q,ni j≠⟨0,H.k,q⟩:=fun j q e=>hN.i j (by rw [e])
 have hz:n=0 → ∀ k,t k=none:=fun e k=>by
  cases hk:t k with
  | none=>rfl
  | some x=>obtain ⟨_,i,hi,_⟩:=ht.sur k x hk; omega
 have f0:=((((Same.mk' (s:=([]:List Nm)) (Same.refl H)).set (nold (Int.le_refl _)) (n:=⟨0,H.k,0⟩) (o:=.row 2 (cs [i64 0,i64 0]))).set (nold (Int.le_refl _)) (n:=⟨0,H.k,1⟩) (o:=.row 3 (cs [i64 0,i64 0,i64 0]))).bmp (c:=2))
 rcases r2 with ⟨rfl,rfl⟩ | ⟨u,c,hu,rfl,q2,q3⟩
 ·simp only [go_sem,nh0,r1]
  refine EI_i (fun c1=>?_) (fun c1=>by simp at c1)
  simp only [go_sem,n1,n1',n2,n2',n3,n3',nh0,na0,r1,holdsOk_cons,gd_none,pureV,forall_const,fr_lkp,and_self]
  exact ⟨(((f0.set (nold (by omega))).bmp.set (nold (Int.le_refl _))).set (nold (Int.le_refl _))),.inl (hz rfl)⟩
 ·simp only [go_sem,nh0,r1]
  refine EI_i (fun c1=>?_) (fun c1=>?_)
  ·have c1:n=0:=by simpa using c1
   simp only [go_sem,n1,n1',n2,n2',n3,n3',nh0,na0,ni0,r1,q3,holdsOk_cons,gd_none,pureV,forall_const,fr_lkp,and_self]
   exact ⟨(((f0.set (nold (by omega))).bmp.set (nold (Int.le_refl _))).set (nold (Int.le_refl _))),.inl (hz c1)⟩
  ·have c1:n≠0:=by simpa using c1
   have i1:(0:Int)<(n:Int):=by omega
   have i2:0*5+2≤c:=by omega
   have i5:0*5+2+3≤c:=by omega
   have t0:Int.toNat 0=0:=rfl
   have e0:rowOf 5 tmC g 0=i64 (g 0).2.1:=rfl
   have e1:rowOf 5 tmC g 1=i64 (g 0).2.2:=rfl
   have e2:rowOf 5 tmC g 2=i64 (g 0).1:=rfl
   have e3:rowOf 5 tmC g 3=i64 (g 0).2.1:=rfl
   have e4:rowOf 5 tmC g 4=i64 (g 0).2.2:=rfl
   have l0:(0:Int)≤0:=by omega
   simp only [go_sem,n1,n1',n2,n2',n3,n3',nh0,na0,ni0,r1,q3,i1,i5,i2,l0,t0,e0,e1,e2,e3,e4,holdsOk_cons,gd_none,pureV,forall_const,fr_lkp,and_self]
   refine ⟨((f0.set (nold (Int.le_refl _))).set (nold (Int.le_refl _))),.inr ⟨g 0,rfl,ht.mem 0 (by omega),fun k y hy=>?_⟩⟩
   obtain ⟨_,i,hi,rfl⟩:=ht.sur k y hy
   exact ho.least tmOrd i hi
end Go.Ab

namespace Go.Ab
open Go Gh
variable {P : Program} {F : Nums}
theorem NmsOk.ne {nh na:Nm} {ni:Int→Nm} (h:NmsOk nh na ni) {j k:Int} (e:j≠k):ni j≠ni k:=fun he=>e (h.inj _ _ he)
theorem row_snoc {α:Type} {e:Nat} {cells:α→List AV} {g:Nat→α} {n:Nat} {x:α} {a b z:List AV} (hx:cells x=a++b) (he:a.length+b.length=e) (h0:0<e) {i:Nat} (hi:i<n*e+e) :
  rowOf e cells (fun k=>if k=n then x else g k) i=updN (fun i=>if i<n*e then rowOf e cells g i else (a++z).getD (i-n*e) .any) (n*e+a.length) b i:=by
 rw [updN_at]
 by_cases c1:i<n*e
 ·rw [if_neg (by omega),if_pos c1]
  have:i / e≠n:=by
   have:=Nat.div_lt_of_lt_mul (Nat.mul_comm n e ▸ c1)
   omega
  show (cells (if i / e=n then x else g (i / e))).getD (i % e) .any=(cells (g (i / e))).getD (i % e) .any
  rw [if_neg this]
 ·have hd:i / e=n:=by
   apply Nat.div_eq_of_lt_le
   ·omega
   ·rw [Nat.succ_mul]; omega
  have hm:i % e=i-n*e:=by
   have:=Nat.div_add_mod i e
   rw [hd,Nat.mul_comm] at this; omega
  show (cells (if i / e=n then x else g (i / e))).getD (i % e) .any=_
  rw [if_pos hd,hm,hx,getD_app]
  by_cases c2:i-n*e<a.length
  ·rw [if_pos c2,if_neg (by omega),if_neg c1,getD_app,if_pos c2]
  ·rw [if_neg c2,if_pos (by omega)]
   congr 1
   omega
theorem at_pop {ky:Mk→List Int} {n:Nat} {g:Nat→Mk} {m:List Int→Option AV} (h1 : ∀ i,i<n+1→m (ky (g i))=some (i64 i)) (h2 : ∀ k x,m k=some x → ∃ i,i<n+1∧ky (g i)=k∧x=i64 i)
  (inj : ∀ i j,i<n+1→j<n+1→ky (g i)=ky (g j)→i=j) :
  (∀ i,i<n→mset m (ky (g n)) none (ky (g i))=some (i64 i)) ∧ ∀ k x,mset m (ky (g n)) none k=some x → ∃ i,i<n∧ky (g i)=k∧x=i64 i:=by
 constructor
 ·intro i hi
  have:ky (g i)≠ky (g n):=fun e=>by have:=inj _ _ (by omega) (by omega) e; omega
  show (if ky (g i)=ky (g n) then none else m (ky (g i)))=_
  rw [if_neg this]; exact h1 i (by omega)
 ·intro k x hx
  by_cases e:k=ky (g n)
  ·rw [show mset m (ky (g n)) none k=none by show (if k=ky (g n) then none else m k)=none; rw [if_pos e]] at hx; cases hx
  ·rw [show mset m (ky (g n)) none k=m k by show (if k=ky (g n) then none else m k)=m k; rw [if_neg e]] at hx
   obtain ⟨i,hi,hk,hxi⟩:=h2 k x hx
   refine ⟨i,?_,hk,hxi⟩
   have:i≠n:=fun e'=>e (by rw [← hk,e'])
   omega
theorem Hole.congr {lt:Mk→Mk→Bool} {n:Nat} {g g':Nat→Mk} {i:Nat} (h:Hole lt n g i) (hi:i<n) (hg : ∀ k,k<n→g' k=g k):Hole lt n g' i:=by
 constructor
 ·intro j h1 h2 h3 h4
  have:=par_lt h1
  rw [hg _ h2,hg _ (by omega)]
  exact h.1 j h1 h2 h3 h4
 ·intro h0 j h1 h2 h3
  have:=par_lt h0
  rw [hg _ h2,hg _ (by omega)]
  exact h.2 h0 j h1 h2 h3
theorem HeapOk.congr {lt:Mk→Mk→Bool} {n:Nat} {g g':Nat→Mk} (h:HeapOk lt n g) (hg : ∀ k,k<n→g' k=g k):HeapOk lt n g':=by
 intro j h1 h2
 have:=par_lt h1
 rw [hg _ h2,hg _ (by omega)]
 exact h j h1 h2
theorem theap_New_c (G:Good P F) {nh na:Nm} {ni:Int→Nm} (hN:NmsOk nh na ni) {v:Int} {H:AH} (h1:H.f nh=none) (h2:H.f na=none) (h3 : ∀ j,v≤j→H.f (ni j)=none) :
  ACalls P F.theap_New [.fn F.timer_less []] H (fun r H'=>r=.ptr nh 0∧HeapAt (tp F nh na ni) v (fun _=>none) H'∧Fra (tp F nh na ni).own H H'):=by
 refine fn_rule G.mixed G.theap_New rfl [na,nh] (fun hcl=>?_)
 have q:=hN.ha
 simp only [go_sem,h1,h2,hN.h,hN.a,q]
 refine ⟨⟨0,fun _=>(0,0,0),⟨⟨.nils,by simp only [go_sem],.inl ⟨rfl,rfl⟩⟩,fun j hj=>?_,⟨fun _=>none,by simp only [go_sem,q.symm],fun i hi=>by omega,fun k x hx=>by cases hx⟩,fun i j hi=>by omega,by decide⟩,fun j h1 h2=>by omega,⟨(fun i hi=>by omega),(fun k x hx=>by cases hx),(fun i j hi=>by omega)⟩⟩,?_⟩
 ·have e1:ni j≠nh:=(hN.hi j).symm
  have e2:ni j≠na:=(hN.ai j).symm
  simp only [go_sem,e1,e2]
  exact h3 j hj
 ·exact (Fra.set (Fra.set Fra.mk1 (.inl (.inr (.inl rfl)))) (.inl (.inl rfl))).bmp
theorem own_t {nh na:Nm} {ni:Int→Nm} (hN:NmsOk nh na ni) {n:Nm} (h:(tp F nh na ni).own n):n.t≠0:=by
 rcases h with rfl | rfl | ⟨j,rfl⟩
 ·exact hN.h
 ·exact hN.a
 ·exact hN.i j
theorem Fra.tmp_at {S:Nm→Prop} {A B:AH} {s:List Nm} {i q:Int} {o:AO} (h:Fra S ⟨A.f,A.k,s⟩ B) (hS : ∀ n,S n→n.t≠0) (hi:i<A.k) (ho:A.f ⟨0,i,q⟩=some o):B.f ⟨0,i,q⟩=some o:=by
 rw [h.at_ _ (fun _=>hi) (fun hs=>hS _ hs rfl)]; exact ho
theorem theap_Drop_c (G:Good P F) {nh na:Nm} {ni:Int→Nm} (hN:NmsOk nh na ni) {v:Int} {t:List Int→Option Mk} {H:AH} (h:HeapAt (tp F nh na ni) v t H) {kd id:Int} :
  ACalls P F.theap_Drop [.ptr nh 0,.agg [i64 kd,i64 id]] H (fun r H'=>r=.bool (t [kd,id]).isSome∧HeapAt (tp F nh na ni) v (tset t [kd,id] none) H'∧Fra (tp F nh na ni).own H H'):=by
 refine fn_rule G.mixed G.theap_Drop rfl [] (fun hcl=>?_)
 obtain ⟨n,g,hr,ho,ht⟩:=h
 obtain ⟨m,m1,m2,m3⟩:=hr.at_
 have hm:=mem_of_m hr ht m1 [kd,id]
 obtain ⟨sl,r1,r2⟩:=hr.row
 simp only at m1 r1 r2 hm
 have nh0 : ∀ q,nh≠⟨0,H.k,q⟩:=fun q e=>hN.h (by rw [e])
 have na0 : ∀ q,na≠⟨0,H.k,q⟩:=fun q e=>hN.a (by rw [e])
 have nh1 : ∀ q,⟨0,H.k,q⟩≠nh:=fun q e=>hN.h (by rw [← e])
 have na1 : ∀ q,⟨0,H.k,q⟩≠na:=fun q e=>hN.a (by rw [← e])
 have hs1:=(((Same.mk' (s:=([]:List Nm)) (Same.refl H)).set (nold (Int.le_refl _)) (n:=⟨0,H.k,0⟩) (o:=.row 2 (cs [i64 kd,i64 id]))).bmp (c:=1))
 rcases hm with ⟨t0,m0⟩ | ⟨i,hi,hk,ti,mi⟩
 ·simp only [go_sem,nh0,na0,r1,m1,m0]
  refine ⟨by rw [t0]; rfl,⟨n,g,hr.same hN hs1,ho,?_⟩,hs1.fra⟩
  have:tset t [kd,id] none=t:=by
   funext k
   unfold tset
   split
   ·rename_i e; rw [e,t0]
   ·rfl
  rw [this]; exact ht
 ·have hle:n<2147483648:=hr.le
  have w1:=wrapP (i:=n) (by omega) (by omega)
  obtain ⟨u,c,hu,q1,q2,q3⟩:=hr.sl (by omega)
  simp only at q1 q2 q3
  simp only [go_sem,nh0,na0,q1,m1,mi,w1]
  refine CA_s [] (theap_swap_c G hN ((hr.same hN hs1).mk' (s:=[])) hi (show n-1<n by omega)) ?_
  rintro _ H2 ⟨h2,hf2⟩ _ _
  obtain ⟨u2,c2,hu2,p1,p2,p3⟩:=h2.sl (by omega)
  obtain ⟨m',m1',m2',m3'⟩:=h2.at_
  simp only at p1 p2 p3 m1' m2' m3'
  have hb2:=hf2.tmp_at (fun n=>own_t hN) (i:=H.k) (q:=0) (by show H.k<H.k+1; omega) (by simp only [go_sem]; rfl)
  have l1:(0:Int)≤((n-1:Nat):Int):=by omega
  have l2:((n-1:Nat):Int)≤(n:Int):=by omega
  have l0:(0:Int)≤0:=by omega
  have t0:Int.toNat 0=0:=rfl
  have qa:=hN.ha
  simp only [go_sem,p1,l0,l1,l2,t0,Int.toNat_natCast,Nat.sub_zero,qa.symm,m1',hb2,nh1,na1]
  have hs2:swp g i (n-1) (n-1)=g i:=by unfold swp; rw [if_pos rfl]
  have ht2:Holds tmK (n-1+1) (swp g i (n-1)) t:=by rw [show n-1+1=n by omega]; exact ht.swp hi (by omega)
  have hp:=at_pop (ky:=tmK) (n:=n-1) (g:=swp g i (n-1)) (m:=m') (fun j hj=>m2' j (by omega)) (fun k x hx=>by obtain ⟨j,hj,e⟩:=m3' k x hx; exact ⟨j,by omega,e⟩) (fun a b ha hb=>h2.inj a b (by omega) (by omega))
  have ht3:=Holds.pop ht2
  rw [hs2,show tmK (g i)=[kd,id] from hk] at hp ht3
  have hr3:HeapRaw (tp F nh na ni) v (n-1) (swp g i (n-1)) ⟨((⟨H2.f,H2.k,[]⟩:AH).set nh (AO.row 3 (cs [AV.fn F.timer_less [],AV.slice (ni u2) 5 0 (n-1),AV.map na]))).set na (AO.mp 2 (mset m' [kd,id] none)) |>.f,H2.k,[]⟩:=by
   refine ⟨⟨_,?_,.inr ⟨u2,c2,hu2,rfl,by show (n-1)*5≤c2; omega,?_⟩⟩,?_,⟨_,?_,hp⟩,fun a b ha hb=>h2.inj a b (by omega) (by omega),by have:=h2.le; omega⟩
   ·simp only [go_sem,qa]
   ·simp only [go_sem,(hN.hi u2).symm,(hN.ai u2).symm]; exact p3
   ·intro j hj
    simp only [go_sem,(hN.hi j).symm,(hN.ai j).symm]
    exact h2.fresh j hj
   ·simp only [go_sem]
  have hf3:=Fra.set (Fra.set ((hs1.fra.trans hf2.of_mk).mk' (S:=(tp F nh na ni).own) (s:=([]:List Nm))) (n:=nh) (o:=(AO.row 3 (cs [AV.fn F.timer_less [],AV.slice (ni u2) 5 0 (n-1),AV.map na]))) (.inl (.inl rfl))) (n:=na) (o:=AO.mp 2 (mset m' [kd,id] none)) (.inl (.inr (.inl rfl)))
  have hres:AV.bool true=.bool (t [kd,id]).isSome:=by rw [ti]; rfl
  refine EI_i (fun c1=>?_) (fun c1=>?_)
  ·have c1:i<n-1:=by simp at c1; omega
   simp only [go_sem]
   have hh:Hole tmLt (n-1) (swp g i (n-1)) i:=by
    refine Hole.congr ((ho.less (m:=n-1) (by omega)).turn tmOrd i (g (n-1))) c1 fun k hk=>?_
    unfold swp
    rw [if_neg (by omega)]
   refine CA_s [] (theap_fix_c G hN (hr3.congr (fun _ _=>rfl)) c1 hh) ?_
   rintro _ H4 ⟨⟨g4,h4,hk4,ho4⟩,hf4⟩ _ _
   simp only [go_sem]
   exact ⟨hres,⟨n-1,g4,h4.mk',ho4,hk4 _ ht3⟩,(hf3.trans hf4.of_mk).mk'⟩
  ·have c1:i=n-1:=by simp at c1; omega
   simp only [go_sem]
   refine ⟨hres,⟨n-1,_,hr3.congr (fun _ _=>rfl),?_,ht3⟩,hf3⟩
   subst c1
   rw [swp_same]
   exact ho.less (by omega)
section
variable {nh na : Nm} {ni : Int → Nm} {A B : AH} {o : AO}
theorem Fra.sh (h:Fra (tp F nh na ni).own A B):Fra (tp F nh na ni).own A (B.set nh o):=Fra.set h (.inl (.inl rfl))
theorem Fra.sa (h:Fra (tp F nh na ni).own A B):Fra (tp F nh na ni).own A (B.set na o):=Fra.set h (.inl (.inr (.inl rfl)))
theorem Fra.si (j:Int) (h:Fra (tp F nh na ni).own A B):Fra (tp F nh na ni).own A (B.set (ni j) o):=Fra.set h (.inl (.inr (.inr ⟨j,rfl⟩)))
end
theorem at_snoc {ky:Mk→List Int} {n:Nat} {g:Nat→Mk} {m:List Int→Option AV} (h1 : ∀ i,i<n→m (ky (g i))=some (i64 i)) (h2 : ∀ k x,m k=some x → ∃ i,i<n∧ky (g i)=k∧x=i64 i)
  {x:Mk} (hx:m (ky x)=none) :
  (∀ i,i<n+1→mset m (ky x) (some (i64 n)) (ky (if i=n then x else g i))=some (i64 i)) ∧ ∀ k y,mset m (ky x) (some (i64 n)) k=some y → ∃ i,i<n+1∧ky (if i=n then x else g i)=k∧y=i64 i:=by
 constructor
 ·intro i hi
  by_cases e:i=n
  ·rw [if_pos e]; show (if ky x=ky x then _ else _)=_; rw [if_pos rfl,e]
  ·rw [if_neg e]
   have hi':i<n:=by omega
   have:ky (g i)≠ky x:=fun e'=>by have:=h1 i hi'; rw [e',hx] at this; cases this
   show (if ky (g i)=ky x then _ else m (ky (g i)))=_
   rw [if_neg this]; exact h1 i hi'
 ·intro k y hy
  by_cases e:k=ky x
  ·rw [show mset m (ky x) (some (i64 n)) k=some (i64 n) by show (if k=ky x then some (i64 n) else m k)=_; rw [if_pos e]] at hy
   exact ⟨n,by omega,by rw [if_pos rfl,e],(Option.some.inj hy).symm⟩
  ·rw [show mset m (ky x) (some (i64 n)) k=m k by show (if k=ky x then some (i64 n) else m k)=m k; rw [if_neg e]] at hy
   obtain ⟨i,hi,hk,hyi⟩:=h2 k y hy
   exact ⟨i,by omega,by rw [if_neg (by omega)]; exact hk,hyi⟩
theorem theap_Set_1 (G:Good P F) {nh na:Nm} {ni:Int→Nm} (hN:NmsOk nh na ni) {v:Int} {t:List Int→Option Mk} (hF:FinT t (2 ^ 31-2)) {H:AH} {n:Nat} {g:Nat→Mk} (hr:HeapRaw (tp F nh na ni) v n g H) (ho:HeapOk tmLt n g) (ht:Holds tmK n g t) {x kd id:Int} {u:Int} (hu:u<v) (r1:H.f nh=some (.row 3 (cs [.fn F.timer_less [],.slice (ni u) 5 0 n,.map na]))) (q3:H.f (ni u)=some (.row (n*5) (rowOf 5 tmC g))) (t0:t [kd,id]=none) :
  ACalls P F.theap_Set [.ptr nh 0,.agg [i64 kd,i64 id],.agg [i64 x,i64 kd,i64 id]] H (fun _ H'=>(∃ v',HeapAt (tp F nh na ni) v' (tset t [kd,id] (some (x,kd,id))) H')∧Fra (tp F nh na ni).own H H'):=by
 refine fn_rule G.mixed G.theap_Set rfl [ni v,ni (v+1),ni (v+2),ni (v+3)] (fun hcl=>?_)
 have hle:n≤2 ^ 31-2:=Holds.le ht hF
 have hle':n<2147483647:=by omega
 obtain ⟨m,m1,m2,m3⟩:=hr.at_
 simp only at m1 m2 m3
 have f0:=hr.fresh v (by omega)
 have f1:=hr.fresh (v+1) (by omega)
 have f2:=hr.fresh (v+2) (by omega)
 have f3:=hr.fresh (v+3) (by omega)
 simp only at f0 f1 f2 f3
 have d01:=hN.ne (j:=v) (k:=v+1) (by omega)
 have d02:=hN.ne (j:=v) (k:=v+2) (by omega)
 have d03:=hN.ne (j:=v) (k:=v+3) (by omega)
 have d12:=hN.ne (j:=v+1) (k:=v+2) (by omega)
 have d13:=hN.ne (j:=v+1) (k:=v+3) (by omega)
 have d23:=hN.ne (j:=v+2) (k:=v+3) (by omega)
 have hi:=hN.hi
 have ai:=hN.ai
 have hi' : ∀ j,ni j≠nh:=fun j=>(hN.hi j).symm
 have ai' : ∀ j,ni j≠na:=fun j=>(hN.ai j).symm
 have ha:=hN.ha
 have it:=hN.i
 have m0:m [kd,id]=none:=by
  rcases mem_of_m hr ht m1 [kd,id] with h | ⟨i,_,_,h,_⟩
  ·exact h.2
  ·rw [h] at t0; cases t0
 have p32:(2 ^ 32<5)=False:=by simp
 have n32:n≤2 ^ 32:=by omega
 have u0:=hN.ne (j:=u) (k:=v) (by omega)
 have u1:=hN.ne (j:=u) (k:=v+1) (by omega)
 have u2:=hN.ne (j:=u) (k:=v+2) (by omega)
 have u3:=hN.ne (j:=u) (k:=v+3) (by omega)
 have i0:(0:Int)≤(n:Int):=by omega
 have i1:(n:Int)<((n+1:Nat):Int):=by omega
 have i5:n*5+2+3≤n*5+5:=by omega
 simp only [go_sem,f0,f1,f2,f3,it,hi,ai,hi',ai',ha,ha.symm,d01,d02,d03,d12,d13,d23,d01.symm,d02.symm,d03.symm,d12.symm,d13.symm,d23.symm,r1,m1,m0,q3,p32,n32,u0,u1,u2,u3,u0.symm,u1.symm,u2.symm,u3.symm,i0,i1,i5,Int.toNat_natCast,or_self,Nat.reduceDiv]
 have hsn:=Holds.snoc ht (x:=(x,kd,id)) t0
 have hat:=at_snoc (ky:=tmK) m2 m3 (x:=(x,kd,id)) m0
 refine CA_s [] (ACalls.pre (Wk.row (n:=ni (v+3)) (c':=(n+1)*5) (g':=rowOf 5 tmC (fun k=>if k=n then (x,kd,id) else g k)) (by simp only [go_sem]; rfl) (by omega) (fun i hi=>row_snoc (e:=5) (x:=(x,kd,id)) (a:=[i64 kd,i64 id]) (b:=[i64 x,i64 kd,i64 id]) rfl rfl (by decide) (by omega)))
  (theap_fix_c G hN (v:=v+4) (n:=n+1) (g:=fun k=>if k=n then (x,kd,id) else g k) (i:=n) ?_ (by omega) (ho.snoc (x,kd,id)))) ?_
 ·refine ⟨⟨_,by simp only [go_sem,hi,ha],.inr ⟨v+3,(n+1)*5,by omega,rfl,Nat.le_refl _,by simp only [go_sem]⟩⟩,?_,⟨_,by simp only [go_sem,ai]; rfl,hat.1,hat.2⟩,hsn.inj,by show n+1<2 ^ 31; omega⟩
  intro j hj
  have e0:=hN.ne (j:=j) (k:=v) (by omega)
  have e1:=hN.ne (j:=j) (k:=v+1) (by omega)
  have e2:=hN.ne (j:=j) (k:=v+2) (by omega)
  have e3:=hN.ne (j:=j) (k:=v+3) (by omega)
  have eu:=hN.ne (j:=j) (k:=u) (by omega)
  simp only [go_sem,e0,e1,e2,e3,eu,hi',ai']
  exact hr.fresh j (by omega)
 rintro _ H4 ⟨⟨g4,h4,hk4,ho4⟩,hf4⟩ _ _
 simp only [go_sem]
 exact ⟨⟨v+4,n+1,g4,h4.mk',ho4,hk4 _ hsn⟩,(Fra.trans (Fra.si _ (Fra.mk' (Fra.si _ (Fra.sa (Fra.bmp (Fra.sh (Fra.si _ (Fra.si _ (Fra.si _ (Fra.bmp (Fra.si _ (Fra.si _ Fra.mk1)))))))))))) hf4).mk'⟩
theorem theap_Set_0 (G:Good P F) {nh na:Nm} {ni:Int→Nm} (hN:NmsOk nh na ni) {v:Int} {t:List Int→Option Mk} (hF:FinT t (2 ^ 31-2)) {H:AH} {g:Nat→Mk} (hr:HeapRaw (tp F nh na ni) v 0 g H) (ho:HeapOk tmLt 0 g) (ht:Holds tmK 0 g t) {x kd id:Int} (r1:H.f nh=some (.row 3 (cs [.fn F.timer_less [],.nils,.map na]))) :
  ACalls P F.theap_Set [.ptr nh 0,.agg [i64 kd,i64 id],.agg [i64 x,i64 kd,i64 id]] H (fun _ H'=>(∃ v',HeapAt (tp F nh na ni) v' (tset t [kd,id] (some (x,kd,id))) H')∧Fra (tp F nh na ni).own H H'):=by
 refine fn_rule G.mixed G.theap_Set rfl [ni v,ni (v+1),ni (v+2),ni (v+3)] (fun hcl=>?_)
 obtain ⟨m,m1,m2,m3⟩:=hr.at_
 simp only at m1 m2 m3
 have f0:=hr.fresh v (by omega)
 have f1:=hr.fresh (v+1) (by omega)
 have f2:=hr.fresh (v+2) (by omega)
 have f3:=hr.fresh (v+3) (by omega)
 simp only at f0 f1 f2 f3
 have d01:=hN.ne (j:=v) (k:=v+1) (by omega)
 have d02:=hN.ne (j:=v) (k:=v+2) (by omega)
 have d03:=hN.ne (j:=v) (k:=v+3) (by omega)
 have d12:=hN.ne (j:=v+1) (k:=v+2) (by omega)
 have d13:=hN.ne (j:=v+1) (k:=v+3) (by omega)
 have d23:=hN.ne (j:=v+2) (k:=v+3) (by omega)
 have hi:=hN.hi
 have ai:=hN.ai
 have hi' : ∀ j,ni j≠nh:=fun j=>(hN.hi j).symm
 have ai' : ∀ j,ni j≠na:=fun j=>(hN.ai j).symm
 have ha:=hN.ha
 have it:=hN.i
 have t0:t [kd,id]=none:=by
  cases hk:t [kd,id] with
  | none=>rfl
  | some y=>obtain ⟨_,i,hi,_⟩:=ht.sur _ y hk; omega
 have m0:m [kd,id]=none:=by
  rcases mem_of_m hr ht m1 [kd,id] with h | ⟨i,_,_,h,_⟩
  ·exact h.2
  ·rw [h] at t0; cases t0
 have p32:(2 ^ 32<5)=False:=by simp
 have l0:(0:Int)≤0:=by omega
 have l1:(0:Int)<((1:Nat):Int):=by omega
 have i5:0*5+2+3≤5:=by omega
 have z0:Int.toNat 0=0:=rfl
 simp only [go_sem,f0,f1,f2,f3,it,hi,ai,hi',ai',ha,ha.symm,d01,d02,d03,d12,d13,d23,d01.symm,d02.symm,d03.symm,d12.symm,d13.symm,d23.symm,r1,m1,m0,p32,l0,l1,i5,z0,or_self,Nat.reduceDiv]
 refine ⟨by decide,?_⟩
 have hsn:=Holds.snoc ht (x:=(x,kd,id)) t0
 have hat:=at_snoc (ky:=tmK) m2 m3 (x:=(x,kd,id)) m0
 refine CA_s [] (ACalls.pre (Wk.row (n:=ni (v+3)) (c':=1*5) (g':=rowOf 5 tmC (fun k=>if k=0 then (x,kd,id) else g k)) (by simp only [go_sem]; rfl) (by omega) (fun i hi=>by
  have:i=0∨i=1∨i=2∨i=3∨i=4:=by omega
  rcases this with rfl | rfl | rfl | rfl | rfl <;> rfl))
  (theap_fix_c G hN (v:=v+4) (n:=0+1) (g:=fun k=>if k=0 then (x,kd,id) else g k) (i:=0) ?_ (by omega) (ho.snoc (x,kd,id)))) ?_
 ·refine ⟨⟨_,by simp only [go_sem,hi,ha],.inr ⟨v+3,1*5,by omega,rfl,Nat.le_refl _,by simp only [go_sem]⟩⟩,?_,⟨_,by simp only [go_sem,ai]; rfl,hat.1,hat.2⟩,hsn.inj,by decide⟩
  intro j hj
  have e0:=hN.ne (j:=j) (k:=v) (by omega)
  have e1:=hN.ne (j:=j) (k:=v+1) (by omega)
  have e2:=hN.ne (j:=j) (k:=v+2) (by omega)
  have e3:=hN.ne (j:=j) (k:=v+3) (by omega)
  simp only [go_sem,e0,e1,e2,e3,hi',ai']
  exact hr.fresh j (by omega)
 rintro _ H4 ⟨⟨g4,h4,hk4,ho4⟩,hf4⟩ _ _
 simp only [go_sem]
 exact ⟨⟨v+4,0+1,g4,h4.mk',ho4,hk4 _ hsn⟩,(Fra.trans (Fra.si _ (Fra.mk' (Fra.si _ (Fra.sa (Fra.bmp (Fra.sh (Fra.si _ (Fra.si _ (Fra.bmp (Fra.si _ (Fra.si _ Fra.mk1))))))))))) hf4).mk'⟩
theorem theap_Set_2 (G:Good P F) {nh na:Nm} {ni:Int→Nm} (hN:NmsOk nh na ni) {v:Int} {t:List Int→Option Mk} (hF:FinT t (2 ^ 31-2)) {H:AH} {n:Nat} {g:Nat→Mk} (hr:HeapRaw (tp F nh na ni) v n g H) (ho:HeapOk tmLt n g) (ht:Holds tmK n g t) {x kd id:Int} {i:Nat} (hin:i<n) (hk:tmK (g i)=[kd,id]) :
  ACalls P F.theap_Set [.ptr nh 0,.agg [i64 kd,i64 id],.agg [i64 x,i64 kd,i64 id]] H (fun _ H'=>(∃ v',HeapAt (tp F nh na ni) v' (tset t [kd,id] (some (x,kd,id))) H')∧Fra (tp F nh na ni).own H H'):=by
 refine fn_rule G.mixed G.theap_Set rfl [ni v,ni (v+1),ni (v+2),ni (v+3)] (fun hcl=>?_)
 have hle:n≤2 ^ 31-2:=Holds.le ht hF
 have hle':n<2147483647:=by omega
 obtain ⟨m,m1,m2,m3⟩:=hr.at_
 simp only at m1 m2 m3
 have f0:=hr.fresh v (by omega)
 have f1:=hr.fresh (v+1) (by omega)
 have f2:=hr.fresh (v+2) (by omega)
 have f3:=hr.fresh (v+3) (by omega)
 simp only at f0 f1 f2 f3
 have d01:=hN.ne (j:=v) (k:=v+1) (by omega)
 have d02:=hN.ne (j:=v) (k:=v+2) (by omega)
 have d03:=hN.ne (j:=v) (k:=v+3) (by omega)
 have d12:=hN.ne (j:=v+1) (k:=v+2) (by omega)
 have d13:=hN.ne (j:=v+1) (k:=v+3) (by omega)
 have d23:=hN.ne (j:=v+2) (k:=v+3) (by omega)
 have hi:=hN.hi
 have ai:=hN.ai
 have hi' : ∀ j,ni j≠nh:=fun j=>(hN.hi j).symm
 have ai' : ∀ j,ni j≠na:=fun j=>(hN.ai j).symm
 have ha:=hN.ha
 have it:=hN.i
 have mi:m [kd,id]=some (i64 i):=by rw [← hk]; exact m2 i hin
 obtain ⟨u,c,hu,q1,q2,q3⟩:=hr.sl (by omega)
 simp only at q1 q2 q3
 have i0:(0:Int)≤(i:Int):=by omega
 have i1:(i:Int)<(n:Int):=by omega
 have i5:i*5+2+3≤c:=by omega
 have u0:=hN.ne (j:=u) (k:=v) (by omega)
 have u1:=hN.ne (j:=u) (k:=v+1) (by omega)
 have hkey:(g i).2.1=kd∧(g i).2.2=id:=by
  have : [(g i).2.1,(g i).2.2]=[kd,id]:=hk
  simpa using this
 have s1:updN (rowOf 5 tmC g) (i*5+2) [i64 x,i64 kd,i64 id]=rowOf 5 tmC (fun l=>if l=i then (x,kd,id) else g l):=by
  refine rowOf_updN (by show 2+3≤5; omega) (by decide) fun k hk=>?_
  have:k=0∨k=1∨k=2∨k=3∨k=4:=by omega
  rcases this with rfl | rfl | rfl | rfl | rfl <;> simp [hkey.1,hkey.2]
 simp only [go_sem,f0,f1,f2,f3,it,hi,ai,hi',ai',ha,ha.symm,d01,d02,d03,d12,d13,d23,d01.symm,d02.symm,d03.symm,d12.symm,d13.symm,d23.symm,q1,m1,mi,i0,i1,i5,q3,u0,u1,u0.symm,u1.symm,Int.toNat_natCast,s1]
 have hf:Fra (tp F nh na ni).own H (((bmp 2 (((⟨H.f,H.k,[ni v,ni (v+1),ni (v+2),ni (v+3)]⟩:AH).set (ni v) (AO.row 2 (cs [i64 kd,i64 id]))).set (ni (v+1)) (AO.row 3 (cs [i64 x,i64 kd,i64 id])))).set (ni u) (AO.row c (rowOf 5 tmC (fun l=>if l=i then (x,kd,id) else g l))))) :=
  Fra.set (Fra.bmp (Fra.set (Fra.set Fra.mk1 (.inl (.inr (.inr ⟨_,rfl⟩)))) (.inl (.inr (.inr ⟨_,rfl⟩))))) (.inl (.inr (.inr ⟨_,rfl⟩)))
 have hr':HeapRaw (tp F nh na ni) (v+4) n (fun l=>if l=i then (x,kd,id) else g l) (((bmp 2 (((⟨H.f,H.k,[ni v,ni (v+1),ni (v+2),ni (v+3)]⟩:AH).set (ni v) (AO.row 2 (cs [i64 kd,i64 id]))).set (ni (v+1)) (AO.row 3 (cs [i64 x,i64 kd,i64 id])))).set (ni u) (AO.row c (rowOf 5 tmC (fun l=>if l=i then (x,kd,id) else g l))))):=by
  have kk : ∀ k,tmK (if k=i then (x,kd,id) else g k)=tmK (g k):=fun k=>by
   split
   ·rename_i e; subst e; rw [hk]; rfl
   ·rfl
  refine ⟨⟨_,?_,.inr ⟨u,c,by omega,rfl,q2,?_⟩⟩,?_,⟨m,?_,fun k hk'=>by rw [show (tp F nh na ni).ky=tmK from rfl,kk]; exact m2 k hk',fun k y hy=>by
   obtain ⟨l,h1,h2,h3⟩:=m3 k y hy
   exact ⟨l,h1,by rw [show (tp F nh na ni).ky=tmK from rfl,kk]; exact h2,h3⟩⟩,fun a b h1 h2 h3=>hr.inj a b h1 h2 (by rw [show (tp F nh na ni).ky=tmK from rfl,kk,kk] at h3; exact h3),hr.le⟩
  ·simp only [go_sem,hi,q1]
  ·simp only [go_sem]
  ·intro j hj
   have e0:=hN.ne (j:=j) (k:=v) (by omega)
   have e1:=hN.ne (j:=j) (k:=v+1) (by omega)
   have e2:=hN.ne (j:=j) (k:=u) (by omega)
   simp only [go_sem,e0,e1,e2]
   exact hr.fresh j (by omega)
  ·simp only [go_sem,ai,m1]
 refine CA_s [] (theap_fix_c G hN (hr'.congr (fun _ _=>rfl)) hin (ho.turn tmOrd i (x,kd,id))) ?_
 rintro _ H4 ⟨⟨g4,h4,hk4,ho4⟩,hf4⟩ _ _
 simp only [go_sem]
 exact ⟨⟨v+4,n,g4,h4.mk',ho4,hk4 _ (Holds.turn ht hin (x:=(x,kd,id)) hk.symm)⟩,(hf.trans hf4.of_mk).mk'⟩
theorem theap_Set_c (G:Good P F) {nh na:Nm} {ni:Int→Nm} (hN:NmsOk nh na ni) {v:Int} {t:List Int→Option Mk} (hF:FinT t (2 ^ 31-2)) {H:AH} (h:HeapAt (tp F nh na ni) v t H) {x kd id:Int} :
  ACalls P F.theap_Set [.ptr nh 0,.agg [i64 kd,i64 id],.agg [i64 x,i64 kd,i64 id]] H (fun _ H'=>(∃ v',HeapAt (tp F nh na ni) v' (tset t [kd,id] (some (x,kd,id))) H')∧Fra (tp F nh na ni).own H H'):=by
 obtain ⟨n,g,hr,ho,ht⟩:=h
 cases hk:t [kd,id] with
 | some y =>
  obtain ⟨h1,i,h2,h3⟩:=ht.sur _ _ hk
  exact theap_Set_2 G hN hF hr ho ht h2 (by rw [h3]; exact h1)
 | none =>
  obtain ⟨sl,r1,r2⟩:=hr.row
  simp only at r1 r2
  rcases r2 with ⟨rfl,rfl⟩ | ⟨u,c,hu,rfl,q2,q3⟩
  ·exact theap_Set_0 G hN hF hr ho ht r1
  ·refine ACalls.pre (Wk.row (n:=ni u) (c':=n*5) (g':=rowOf 5 tmC g) q3 q2 (fun _ _=>rfl)) ?_
   have hr':HeapRaw (tp F nh na ni) v n g (H.set (ni u) (.row (n*5) (rowOf 5 tmC g))):=by
    obtain ⟨m,m1,m2⟩:=hr.at_
    refine ⟨⟨_,by simp only [go_sem,hN.hi]; exact r1,.inr ⟨u,n*5,hu,rfl,Nat.le_refl _,by simp only [go_sem]⟩⟩,fun j hj=>?_,⟨m,by simp only [go_sem,hN.ai]; exact m1,m2⟩,hr.inj,hr.le⟩
    have e:=hN.ne (j:=j) (k:=u) (by omega)
    simp only [go_sem,e]; exact hr.fresh j hj
   refine (theap_Set_1 G hN hF hr' ho ht hu (by simp only [go_sem,hN.hi]; exact r1) (by simp only [go_sem]) hk).post fun w H' hh _ _=>⟨H',Wk.refl _,hh.1,?_⟩
   exact Fra.trans (Fra.set (Fra.refl _ _) (.inl (.inr (.inr ⟨_,rfl⟩)))) hh.2
end Go.Ab

namespace Go.Ab
open Go Gh
variable {P : Program} {F : Nums}
theorem timN (c:Nat):NmsOk (nTHeap c) (nTAt c) (nTItems c) where
 h:=tg_ne0
 a:=tg_ne0
 i _:=tg_ne0
 ha e:=by have:=congrArg Nm.t e; simp [tg_inj] at this
 hi _ e:=by have:=congrArg Nm.t e; simp [tg_inj] at this
 ai _ e:=by have:=congrArg Nm.t e; simp [tg_inj] at this
 inj j k e:=congrArg Nm.j e
structure TimAt (F:Nums) (c:Nat) (t:List Int→Option Mk) (H:AH):Prop where
 row:H.f (nTim c)=some (.row 1 (cs [.ptr (nTHeap c) 0]))
 heap : ∃ v,HeapAt (tp F (nTHeap c) (nTAt c) (nTItems c)) v t H
abbrev timO (F:Nums) (c:Nat):Nm→Prop:=(tp F (nTHeap c) (nTAt c) (nTItems c)).own
theorem timO_t {c:Nat} {n:Nm} (h:timO F c n):n.t=tg c 19∨n.t=tg c 20∨n.t=tg c 21:=by
 rcases h with rfl | rfl | ⟨j,rfl⟩
 ·exact .inl rfl
 ·exact .inr (.inr rfl)
 ·exact .inr (.inl rfl)
theorem nTim_no {c:Nat} : ¬ timO F c (nTim c):=fun h=>by
 rcases timO_t h with h | h | h <;> simp [tg_inj] at h
theorem nTim_old {c:Nat} {H:AH}:old H (nTim c):=old_of tg_ne0
theorem Fra.tmp_at' {S:Nm→Prop} {A B:AH} {i q:Int} {o:AO} (h:Fra S A B) (hS : ∀ n,S n→n.t≠0) (hi:i<A.k) (ho:A.f ⟨0,i,q⟩=some o):B.f ⟨0,i,q⟩=some o:=by
 rw [h.at_ _ (fun _=>hi) (fun hs=>hS _ hs rfl)]; exact ho
theorem timer_Set_c (G:Good P F) {c:Nat} {t:List Int→Option Mk} (hF:FinT t (2 ^ 31-2)) {H:AH} (h:TimAt F c t H) {x kd id:Int} :
  ACalls P F.timer_Set [.ptr (nTim c) 0,.agg [i64 kd,i64 id],i64 x] H (fun _ H'=>TimAt F c (tset t [kd,id] (some (x,kd,id))) H'∧Fra (timO F c) H H'):=by
 refine fn_rule G.mixed G.timer_Set rfl [] (fun hcl=>?_)
 obtain ⟨r,v,hh⟩:=h
 have n0:nTim c≠⟨0,H.k,0⟩:=fun e=>tg_ne0 (congrArg Nm.t e)
 have hs:Same H (bmp 1 ((⟨H.f,H.k,[]⟩:AH).set ⟨0,H.k,0⟩ (.row 2 (cs [i64 kd,i64 id])))):=((Same.mk' (Same.refl H)).set (nold (Int.le_refl _))).bmp
 simp only [go_sem,n0,r]
 refine CA_s [] (theap_Set_c G (timN c) hF ((hh.congr fun m hm=>hs.at_ m (old_of (own_t (timN c) hm))).congr (fun _ _=>rfl))) ?_
 rintro _ H1 ⟨⟨v',h1⟩,hf1⟩ _ _
 simp only [go_sem]
 have hf:=hs.fra.trans hf1.of_mk
 exact ⟨⟨by rw [← r]; exact hf.at_ _ nTim_old nTim_no,v',h1.congr (fun _ _=>rfl)⟩,hf.mk'⟩
theorem TimAt.same {c:Nat} {t:List Int→Option Mk} {H H':AH} (h:TimAt F c t H) (hs:Same H H'):TimAt F c t H':=by
 obtain ⟨r,v,hh⟩:=h
 exact ⟨by rw [hs.at_ _ nTim_old]; exact r,v,hh.congr fun m hm=>hs.at_ m (old_of (own_t (timN c) hm))⟩
theorem timer_Drop_c (G:Good P F) {c:Nat} {t:List Int→Option Mk} {H:AH} (h:TimAt F c t H) {kd id:Int} :
  ACalls P F.timer_Drop [.ptr (nTim c) 0,.agg [i64 kd,i64 id]] H (fun r H'=>r=.bool (t [kd,id]).isSome∧TimAt F c (tset t [kd,id] none) H'∧Fra (timO F c) H H'):=by
 refine fn_rule G.mixed G.timer_Drop rfl [] (fun hcl=>?_)
 obtain ⟨r,v,hh⟩:=h
 have n0:nTim c≠⟨0,H.k,0⟩:=fun e=>tg_ne0 (congrArg Nm.t e)
 have hs:Same H (bmp 1 ((⟨H.f,H.k,[]⟩:AH).set ⟨0,H.k,0⟩ (.row 2 (cs [i64 kd,i64 id])))):=((Same.mk' (Same.refl H)).set (nold (Int.le_refl _))).bmp
 simp only [go_sem,n0,r]
 refine CA_s [] (theap_Drop_c G (timN c) ((hh.congr fun m hm=>hs.at_ m (old_of (own_t (timN c) hm))).congr (fun _ _=>rfl))) ?_
 rintro _ H1 ⟨rfl,h1,hf1⟩ _ _
 simp only [go_sem]
 have hf:=hs.fra.trans hf1.of_mk
 exact ⟨⟨by rw [← r]; exact hf.at_ _ nTim_old nTim_no,v,h1.congr (fun _ _=>rfl)⟩,hf.mk'⟩
theorem timer_At_c (G:Good P F) {c:Nat} {t:List Int→Option Mk} {H:AH} (h:TimAt F c t H) {kd id:Int} :
  ACalls P F.timer_At [.ptr (nTim c) 0,.agg [i64 kd,i64 id]] H (fun r H'=>r=.tup [i64 ((t [kd,id]).getD (0,0,0)).1,.bool (t [kd,id]).isSome]∧Same H H'):=by
 refine fn_rule G.mixed G.timer_At rfl [] (fun hcl=>?_)
 obtain ⟨r,v,hh⟩:=h
 have n0:nTim c≠⟨0,H.k,0⟩:=fun e=>tg_ne0 (congrArg Nm.t e)
 have hs:Same H (bmp 1 ((⟨H.f,H.k,[]⟩:AH).set ⟨0,H.k,0⟩ (.row 2 (cs [i64 kd,i64 id])))):=((Same.mk' (Same.refl H)).set (nold (Int.le_refl _))).bmp
 simp only [go_sem,n0,r]
 refine ⟨?_,?_⟩
 ·have hs2:=(hs.set (nold (i:=H.k+1) (q:=0) (by omega)) (o:=.row 3 (cs [i64 0,i64 0,i64 0]))).bmp (c:=1)
  refine CA_s [] (theap_Get_c G (timN c) ((hh.congr fun m hm=>hs2.at_ m (old_of (own_t (timN c) hm))).congr (fun _ _=>rfl))) ?_
  rintro _ H1 ⟨rfl,h1⟩ _ _
  have hb:H1.f ⟨0,H.k+1,0⟩=some (.row 3 (cs [i64 0,i64 0,i64 0])):=by
   rw [h1.at_ _ (fun _=>by show H.k+1<H.k+1+1; omega)]; simp only [go_sem]
  simp only [go_sem,hb]
  exact ((hs2.trans h1.of_mk).mk'.set (nold (by omega))).bmp
 ·rw [show mvx 9 5 (r18_1 F)=[.mv 0 9 0,.ck 1 10 9,.f 2 11 10 0,.l 3 12 11,.i 4 13 (.ldn (.s 3) 2),⟨5,(some 14),none,[],.call (.c (.fn F.theap_Get [])) [.s 12,.s 13],1⟩,.i 9 6 (.alc 0 [.int .i64 0,.int .i64 0,.int .i64 0]),
   .mv 6 8 14,.e 7 15 8 0,.e 8 16 8 1,.j 10 (.stn (.s 6) (.s 15) 3),.mv 11 7 16] from rfl]
  simp only [go_sem,n0,r]
  refine CA_s [] (theap_Get_c G (timN c) ((hh.congr fun m hm=>hs.bmp.at_ m (old_of (own_t (timN c) hm))).congr (fun _ _=>rfl))) ?_
  rintro _ H1 ⟨rfl,h1⟩ hk1 _
  have hk1:H.k+1+1≤H1.k:=hk1
  simp only [go_sem]
  exact ((hs.bmp.trans h1).mk'.set (nold (i:=H1.k) (q:=0) (by omega))).bmp
theorem timer_New_c (G:Good P F) {c:Nat} {H:AH} (h0:H.f (nTim c)=none) (h1:H.f (nTHeap c)=none) (h2:H.f (nTAt c)=none) (h3 : ∀ j,0≤j→H.f (nTItems c j)=none) :
  ACalls P F.timer_New [] H (fun r H'=>r=.ptr (nTim c) 0∧TimAt F c (fun _=>none) H'∧Fra (fun n=>timO F c n∨n=nTim c) H H'):=by
 refine fn_rule G.mixed G.timer_New rfl [nTim c] (fun hcl=>?_)
 simp only [go_sem]
 refine CA_s [nTim c] (theap_New_c G (timN c) (v:=0) h1 h2 h3) ?_
 rintro _ H1 ⟨rfl,h1,hf1⟩ _ _
 have e0:H1.f (nTim c)=none:=by rw [← h0]; exact hf1.at_ _ nTim_old nTim_no
 simp only [go_sem,tg_ne0,e0]
 have hN:=timN c
 refine ⟨⟨by simp only [go_sem],0,h1.congr fun m hm=>?_⟩,?_⟩
 ·have:m≠nTim c:=fun e=>nTim_no (e ▸ hm)
  simp only [go_sem,this]
 ·exact Fra.bmp (Fra.set (hf1.of_mk.mono fun _ h=>.inl h).mk' (.inl (.inr rfl)))
theorem timer_Next_c (G:Good P F) {c:Nat} {t:List Int→Option Mk} {H:AH} (h:TimAt F c t H) {now:Int} :
  ACalls P F.timer_Next [.ptr (nTim c) 0,i64 now] H (fun r H'=>Fra (timO F c) H H' ∧
   ((r=.tup [.agg [i64 0,i64 0],.bool false]∧TimAt F c t H' ∧ ∀ k x,t k=some x→now<x.1) ∨
    ∃ x,r=.tup [.agg [i64 x.2.1,i64 x.2.2],.bool true]∧t (tmK x)=some x∧x.1≤now∧(∀ k y,t k=some y→tmLt y x=false)∧TimAt F c (tset t (tmK x) none) H')):=by
 refine fn_rule G.mixed G.timer_Next rfl [] (fun hcl=>?_)
 have h0:=h
 obtain ⟨r,v,hh⟩:=h
 have n0:nTim c≠⟨0,H.k,0⟩:=fun e=>tg_ne0 (congrArg Nm.t e)
 have hs:Same H (bmp 1 ((⟨H.f,H.k,[]⟩:AH).set ⟨0,H.k,0⟩ (.row 2 (cs [i64 0,i64 0])))):=((Same.mk' (Same.refl H)).set (nold (Int.le_refl _))).bmp
 simp only [go_sem,n0,r]
 refine CA_s [] (theap_Min_c G (timN c) ((hh.congr fun m hm=>hs.at_ m (old_of (own_t (timN c) hm))).congr (fun _ _=>rfl))) ?_
 rintro _ H1 ⟨h1,hr⟩ hk1 _
 have hk1:H.k+1≤H1.k:=hk1
 have hb:H1.f ⟨0,H.k,0⟩=some (.row 2 (cs [i64 0,i64 0])):=by
  rw [h1.at_ _ (fun _=>by show H.k<H.k+1; omega)]; simp only [go_sem]
 have n1:(⟨0,H1.k,0⟩:Nm)≠⟨0,H1.k,1⟩:=tmp_ne (by decide)
 have n2:(⟨0,H.k,0⟩:Nm)≠⟨0,H1.k,1⟩:=tmp_nei (by omega)
 have n3:(⟨0,H.k,0⟩:Nm)≠⟨0,H1.k,0⟩:=tmp_nei (by omega)
 have hs1:=hs.trans h1.of_mk
 have hlow : ∀ a b:AV,∀ l:List AV,∀ w:AO,Same H ((bmp 2 (((((⟨H1.f,H1.k,[]⟩:AH).set ⟨0,H1.k,0⟩ (.row 2 (cs [i64 0,i64 0]))).set ⟨0,H1.k,1⟩ (.row 3 (cs [i64 0,i64 0,i64 0]))).set ⟨0,H1.k,0⟩ (.row 2 (cs [a,b]))).set ⟨0,H1.k,1⟩ (.row 3 (cs l)))).set ⟨0,H.k,0⟩ w):=fun a b l w =>
  ((((((hs1.mk' (s:=([]:List Nm))).set (nold (by omega))).set (nold (by omega))).set (nold (by omega))).set (nold (by omega))).bmp).set (nold (Int.le_refl _))
 rcases hr with ⟨rfl,hr⟩ | ⟨x,rfl,hr,hl⟩
 ·simp only [go_sem,n1,n1.symm,n2,n3,hb]
  exact ⟨(hlow _ _ _ _).fra,.inl ⟨h0.same (hlow _ _ _ _),fun k x hx=>by rw [hr] at hx; cases hx⟩⟩
 ·simp only [go_sem,n1,n1.symm,n2,n3,hb]
  refine EI_i (fun c1=>?_) (fun c1=>?_)
  ·have c1:now<x.1:=by simpa using c1
   simp only [go_sem,n1,n1.symm,n2,n3,hb]
   refine ⟨(hlow _ _ _ _).fra,.inl ⟨h0.same (hlow _ _ _ _),fun k y hy=>?_⟩⟩
   have:=hl k y hy
   unfold tmLt CS.tLt at this
   simp only [Bool.or_eq_false_iff,Bool.and_eq_false_iff,decide_eq_false_iff_not] at this
   omega
  ·have c1:x.1≤now:=by simp at c1; omega
   have n4 : ∀ q,nTim c≠⟨0,H1.k,q⟩:=fun q e=>tg_ne0 (congrArg Nm.t e)
   have r1:H1.f (nTim c)=_:=hs1.some nTim_old r
   simp only [go_sem,n1,n1.symm,n2,n3,n4,hb,r1]
   have hs2:=(((((hs1.mk' (s:=([]:List Nm))).set (nold (by omega)) (n:=⟨0,H1.k,0⟩) (o:=.row 2 (cs [i64 0,i64 0]))).set (nold (by omega)) (n:=⟨0,H1.k,1⟩) (o:=.row 3 (cs [i64 0,i64 0,i64 0]))).set (nold (by omega)) (n:=⟨0,H1.k,0⟩) (o:=.row 2 (cs [i64 x.2.1,i64 x.2.2]))).set (nold (by omega)) (n:=⟨0,H1.k,1⟩) (o:=.row 3 (cs (tmM x)))).bmp (c:=2)
   obtain ⟨rr,v',hh'⟩:=h0.same hs2
   refine CA_s [] (theap_Drop_c G (timN c) (hh'.congr (fun _ _=>rfl))) ?_
   rintro _ H2 ⟨rfl,h2,hf2⟩ hk2 _
   have hk2:H1.k+1≤H2.k:=hk2
   have hb1:=Fra.tmp_at' hf2 (fun n=>own_t (timN c)) (i:=H1.k) (q:=0) (by show H1.k<H1.k+1; omega) (by simp only [go_sem,n1,n1.symm]; rfl)
   have hb2:=Fra.tmp_at' hf2 (fun n=>own_t (timN c)) (i:=H.k) (q:=0) (by show H.k<H1.k+1; omega) (by simp only [go_sem,n2,n3]; exact hb)
   have hf3:=hs2.fra.trans hf2.of_mk
   simp only [go_sem,hb1,hb2]
   refine ⟨hf3.mk'.set (.inr (nold (Int.le_refl _))),.inr ⟨x,rfl,hr,c1,hl,⟨?_,v',h2.congr fun m hm=>?_⟩⟩⟩
   ·have n5:nTim c≠⟨0,H.k,0⟩:=n0
    simp only [go_sem,n5]
    rw [← r]; exact hf3.at_ _ nTim_old nTim_no
   ·have:m≠⟨0,H.k,0⟩:=fun e=>own_t (timN c) hm (by rw [e])
    simp only [go_sem,this]
end Go.Ab

namespace Go.Ab
open Go Gh
variable {P : Program} {F : Nums}
abbrev wp (F:Nums) (nh na:Nm) (ni:Int→Nm):HeapP:=⟨nh,na,ni,1,4,.fn F.warm_less [],wmK,wmC,wmLu⟩
def WV (x:Mk):Prop:=u64b x.1∧u64b x.2.1∧0<x.2.1
theorem pd_pos (d:Int):0<pd d:=by unfold pd; split <;> omega
theorem pd_of {d:Int} (h:0<d):pd d=d:=by unfold pd; rw [if_pos h]
theorem wmLu_eq {a b:Mk} (ha:WV a) (hb:WV b):wmLu a b=wmLt a b:=by
 unfold wmLu wmLt; rw [pd_of ha.2.2,pd_of hb.2.2]
theorem warm_lu_c (G:Good P F) {a b:Mk} {H:AH} (ha:WV a) (hb:WV b):ACalls P F.warm_less [.agg (wmM a),.agg (wmM b)] H (fun v H'=>v=.bool (wmLu a b)∧Same H H'):=by
 rw [wmLu_eq ha hb]
 exact warm_less_c G ha.1 ha.2.1 hb.1 hb.2.1
theorem cr_le {A B C a b c:Int} (ha:0<a) (hb:0<b) (hc:0<c) (h1:A*b≤B*a) (h2:B*c≤C*b):A*c≤C*a:=by
 have e1:=Int.mul_le_mul_of_nonneg_right h1 (Int.le_of_lt hc)
 have e2:=Int.mul_le_mul_of_nonneg_right h2 (Int.le_of_lt ha)
 have:A*c*b≤C*a*b:=by
  have x1:A*c*b=A*b*c:=by ac_rfl
  have x2:B*a*c=B*c*a:=by ac_rfl
  have x3:C*a*b=C*b*a:=by ac_rfl
  rw [x1,x3]; omega
 exact Int.le_of_mul_le_mul_right this hb
theorem cr_lt1 {A B C a b c:Int} (ha:0<a) (hb:0<b) (hc:0<c) (h1:A*b<B*a) (h2:B*c≤C*b):A*c<C*a:=by
 have e1:=Int.mul_lt_mul_of_pos_right h1 hc
 have e2:=Int.mul_le_mul_of_nonneg_right h2 (Int.le_of_lt ha)
 have:A*c*b<C*a*b:=by
  have x1:A*c*b=A*b*c:=by ac_rfl
  have x2:B*a*c=B*c*a:=by ac_rfl
  have x3:C*a*b=C*b*a:=by ac_rfl
  rw [x1,x3]; omega
 exact Int.lt_of_mul_lt_mul_right this (Int.le_of_lt hb)
theorem cr_lt2 {A B C a b c:Int} (ha:0<a) (hb:0<b) (hc:0<c) (h1:A*b≤B*a) (h2:B*c<C*b):A*c<C*a:=by
 have e1:=Int.mul_le_mul_of_nonneg_right h1 (Int.le_of_lt hc)
 have e2:=Int.mul_lt_mul_of_pos_right h2 ha
 have:A*c*b<C*a*b:=by
  have x1:A*c*b=A*b*c:=by ac_rfl
  have x2:B*a*c=B*c*a:=by ac_rfl
  have x3:C*a*b=C*b*a:=by ac_rfl
  rw [x1,x3]; omega
 exact Int.lt_of_mul_lt_mul_right this (Int.le_of_lt hb)
theorem wmOrd:Ord wmLu:=by
 unfold wmLu CS.wLt
 refine ⟨fun a=>?_,fun a b c=>?_,fun a b c=>?_⟩
 ·rw [Bool.eq_false_iff]
  simp only [ne_eq,Bool.or_eq_true,Bool.and_eq_true,decide_eq_true_eq]
  omega
 ·have pa:=pd_pos a.2.1
  have pb:=pd_pos b.2.1
  have pc:=pd_pos c.2.1
  have l1 := @cr_lt1 a.1 b.1 c.1 _ _ _ pa pb pc
  have l2 := @cr_lt2 a.1 b.1 c.1 _ _ _ pa pb pc
  have l3 := @cr_le a.1 b.1 c.1 _ _ _ pa pb pc
  have l4 := @cr_le c.1 b.1 a.1 _ _ _ pc pb pa
  simp only [Bool.or_eq_true,Bool.and_eq_true,decide_eq_true_eq]
  generalize a.1*pd b.2.1=ab at *
  generalize b.1*pd a.2.1=ba at *
  generalize b.1*pd c.2.1=bc at *
  generalize c.1*pd b.2.1=cb at *
  generalize a.1*pd c.2.1=ac at *
  generalize c.1*pd a.2.1=ca at *
  omega
 ·have pa:=pd_pos a.2.1
  have pb:=pd_pos b.2.1
  have pc:=pd_pos c.2.1
  have l1 := @cr_lt1 c.1 b.1 a.1 _ _ _ pc pb pa
  have l2 := @cr_lt2 c.1 b.1 a.1 _ _ _ pc pb pa
  have l3 := @cr_le c.1 b.1 a.1 _ _ _ pc pb pa
  have l4 := @cr_le a.1 b.1 c.1 _ _ _ pa pb pc
  simp only [← Bool.not_eq_true,Bool.or_eq_true,Bool.and_eq_true,decide_eq_true_eq]
  generalize a.1*pd b.2.1=ab at *
  generalize b.1*pd a.2.1=ba at *
  generalize b.1*pd c.2.1=bc at *
  generalize c.1*pd b.2.1=cb at *
  generalize a.1*pd c.2.1=ac at *
  generalize c.1*pd a.2.1=ca at *
  omega
theorem wheap_swap_c (G:Good P F) {nh na:Nm} {ni:Int→Nm} (hN:NmsOk nh na ni) {v:Int} {n:Nat} {g:Nat→Mk} {H:AH} (h:HeapRaw (wp F nh na ni) v n g H) {i j:Nat} (hi:i<n) (hj:j<n) :
  ACalls P F.wheap_swap [.ptr nh 0,i64 i,i64 j] H (fun _ H'=>HeapRaw (wp F nh na ni) v n (swp g i j) H'∧Fra (wp F nh na ni).own H H'):=by
 refine fn_rule G.mixed G.wheap_swap rfl [] (fun hcl=>?_)
 obtain ⟨u,c,hu,h1,h2,h3⟩:=h.sl (by omega)
 obtain ⟨m,m1,m2,m3⟩:=h.at_
 simp only at h1 h2 h3 m1 m2 m3
 have i0:(0:Int)≤(i:Int):=by omega
 have i1:(i:Int)<(n:Int):=by omega
 have j0:(0:Int)≤(j:Int):=by omega
 have j1:(j:Int)<(n:Int):=by omega
 have i4:i*4+4≤c:=by omega
 have j4:j*4+4≤c:=by omega
 have i2:i*4<c:=by omega
 have j2:j*4<c:=by omega
 have q1:=hN.hi u
 have q2:=hN.ai u
 have q3:=hN.ha
 have s1 : ∀ (g:Nat→Mk) (k:Nat) (x:Mk),updN (rowOf 4 wmC g) (k*4) [i64 x.2.2,u64 x.1,u64 x.2.1,i64 x.2.2]=rowOf 4 wmC (fun l=>if l=k then x else g l):=fun g k x=>rowOf_turn (cells:=wmC) (by decide) rfl
 have s2:(if i=j then g i else g j)=g j:=by split <;> simp_all
 simp only [go_sem,h1,h3,i0,i1,j0,j1,i4,j4,i2,j2,Int.toNat_natCast,q1,s1,s2]
 refine EMent_i (m:=m) (key:=[(g j).2.2]) (by simp only [go_sem,q2,m1]) (by simp only [go_sem]) (fun b1=>?_)
 simp only [go_sem]
 refine EMent_i (m:=mset (mset m [(g j).2.2] (some ((m [(g j).2.2]).getD (AV.int IntKind.i64 0)))) [(g j).2.2] (some (i64 i))) (key:=[(g i).2.2]) (by simp only [go_sem]) (by simp only [go_sem]) (fun b2=>?_)
 simp only [go_sem]
 have hm:=at_swp m2 m3 h.inj hi hj (a:=some ((m [(g j).2.2]).getD (AV.int IntKind.i64 0))) (b:=some ((mset (mset m [(g j).2.2] (some ((m [(g j).2.2]).getD (AV.int IntKind.i64 0)))) [(g j).2.2] (some (i64 i)) [(g i).2.2]).getD (AV.int IntKind.i64 0)))
 refine ⟨⟨⟨_,?_,.inr ⟨u,c,hu,rfl,h2,?_⟩⟩,?_,⟨_,by simp only [go_sem]; rfl,hm.1,hm.2⟩,?_,h.le⟩,?_⟩
 ·simp only [go_sem,q3,q1,h1]
 ·simp only [go_sem,Ne.symm q2]
  rfl
 ·intro k hk
  have e1:ni k≠na:=fun e=>hN.ai k e.symm
  have e2:ni k≠ni u:=fun e=>by have:=hN.inj _ _ e; omega
  simp only [go_sem,e1,e2]
  exact h.fresh k hk
 ·intro a b ha hb he
  rw [swp_tr,swp_tr] at he
  have:=h.inj _ _ (tr_lt hi hj ha) (tr_lt hi hj hb) he
  have:=congrArg (Gh.tr i j) this
  rwa [tr_tr,tr_tr] at this
 ·exact (Fra.set (Fra.set Fra.mk1 (.inl (.inr (.inr ⟨u,rfl⟩)))) (.inl (.inr (.inl rfl))))
theorem wheap_up_c (G:Good P F) {nh na:Nm} {ni:Int→Nm} (hN:NmsOk nh na ni) {v:Int} {n:Nat} {g:Nat→Mk} {H:AH} (h:HeapRaw (wp F nh na ni) v n g H) {i:Nat} (hi:i<n) {t:List Int→Option Mk} (ht:Holds wmK n g t) (hV : ∀ k x,t k=some x→WV x) (hh:Hole wmLu n g i) :
  ACalls P F.wheap_up [.ptr nh 0,i64 i] H (fun r H'=>(∃ b,r=.bool b ∧ ∃ g',HeapRaw (wp F nh na ni) v n g' H'∧Holds wmK n g' t∧(b=true→HeapOk wmLu n g')∧(b=false→g'=g∧DownOk wmLu n g i))∧Fra (wp F nh na ni).own H H'):=by
 refine fn_rule G.mixed G.wheap_up rfl [] (fun hcl=>?_)
 simp only [go_sem]
 refine C_loop (fun k l H' => ∃ (g':Nat→Mk) (i':Nat),k=i'∧i'<n∧HeapRaw (wp F nh na ni) v n g' H'∧Holds wmK n g' t∧((i'=i∧g'=g)∨(i'<i∧UpOk wmLu n g' i'))∧Fra (wp F nh na ni).own H H'∧l=[(0,.ptr nh 0),(1,i64 i'),(5,i64 i)]) i
  ⟨g,i,rfl,hi,h.congr (fun _ _=>rfl),ht,.inl ⟨rfl,rfl⟩,Fra.mk1,rfl⟩ ?_
 rintro k _ H1 ⟨g',i',rfl,hi',h1,hk1,hor,hf1,rfl⟩ _ hcl1
 refine ⟨[],?_⟩
 have hle:n<2147483648:=h.le
 obtain ⟨u,c,hu,r1,r2,r3⟩:=h1.sl (by omega)
 simp only at r1 r2 r3
 have q1:=hN.hi u
 have fin : ∀ (H':AH),Fra (wp F nh na ni).own H H'→HeapRaw (wp F nh na ni) v n g' H'→(k=0∨wmLu (g' k) (g' (par k))=false) →
   (∃ b,AV.bool ((k:Int) != (i:Int))=.bool b ∧ ∃ g',HeapRaw (wp F nh na ni) v n g' H'∧Holds wmK n g' t∧(b=true→HeapOk wmLu n g')∧(b=false→g'=g∧DownOk wmLu n g i))∧Fra (wp F nh na ni).own H H':=by
  intro H' hf hr hc
  refine ⟨⟨_,rfl,g',hr,hk1,fun hb=>?_,fun hb=>?_⟩,hf⟩
  ·have hne:k≠i:=by intro e; subst e; simp at hb
   rcases hor with ⟨e,_⟩ | ⟨_,hup⟩
   ·exact absurd e hne
   ·exact hup.ok (by rcases hc with hc | hc; exact .inl hc; exact .inr (.inr hc))
  ·have he:k=i:=by simp at hb; omega
   rcases hor with ⟨_,e⟩ | ⟨e,_⟩
   ·subst e; subst he
    exact ⟨rfl,hh.down hc⟩
   ·omega
 simp only [go_sem]
 refine EI_i (fun c1=>?_) (fun c1=>?_)
 rotate_left
 ·simp only [go_sem]
  have c1:k=0:=by simp at c1; omega
  exact fin _ hf1.mk' (h1.congr (fun _ _=>rfl)) (.inl c1)
 have c1:0<k:=by simp at c1; omega
 have i0:(0:Int)≤(k:Int):=by omega
 have i1:(k:Int)<(n:Int):=by omega
 have p0:(0:Int)≤(((k-1) / 2:Nat):Int):=by omega
 have p1:(((k-1) / 2:Nat):Int)<(n:Int):=by omega
 have i4:k*4+1+3≤c:=by omega
 have p4:(k-1) / 2*4+1+3≤c:=by omega
 have w1:=wrapP c1 (by omega)
 have w2:=wrapD (i:=k-1) (by omega)
 simp only [go_sem,r1,r3,i0,i1,p0,p1,i4,p4,Int.toNat_natCast,q1,two0,w1,w2]
 refine CA_s [] (warm_lu_c G (hV _ _ (hk1.mem k hi')) (hV _ _ (hk1.mem ((k-1) / 2) (by omega)))) ?_
 rintro _ H2 ⟨rfl,h2⟩ _ _
 have h2:=h2.of_mk
 have hr2:HeapRaw (wp F nh na ni) v n g' H2:=h1.congr fun m hm=>h2.at_ m (old_of (by rcases hm with rfl | rfl | ⟨j,rfl⟩; exact hN.h; exact hN.a; exact hN.i j))
 have hf2:=hf1.trans h2.fra
 simp only [go_sem]
 refine EI_i (fun c2=>?_) (fun c2=>?_)
 rotate_left
 ·simp only [go_sem]
  exact fin _ hf2.mk' (hr2.congr (fun _ _=>rfl)) (.inr c2)
 simp only [go_sem,two0,w1,w2]
 refine CA_s [] (wheap_swap_c G hN (hr2.mk' (s:=[])) hi' (show (k-1) / 2<n by omega)) ?_
 rintro _ H3 ⟨h3,hf3⟩ _ _
 simp only [go_sem,two0,w1,w2]
 refine ⟨par k,_,rfl,par_lt c1,swp g' k (par k),par k,rfl,by have:=par_lt c1; omega,h3.congr (fun _ _=>rfl),hk1.swp hi' (by have:=par_lt c1; omega),.inr ⟨?_,?_⟩,(hf2.trans hf3.of_mk).mk',rfl⟩
 ·have:=par_lt c1
  rcases hor with ⟨e,_⟩ | ⟨e,_⟩ <;> omega
 ·have hup:UpOk wmLu n g' k:=by
   rcases hor with ⟨e1,e2⟩ | ⟨_,e⟩
   ·subst e1; subst e2; exact hh.up wmOrd c1 c2
   ·exact e
  exact hup.step wmOrd c1 c2
theorem wheap_down_c (G:Good P F) {nh na:Nm} {ni:Int→Nm} (hN:NmsOk nh na ni) {v:Int} {n:Nat} {g:Nat→Mk} {H:AH} (h:HeapRaw (wp F nh na ni) v n g H) {i:Nat} (hi:i<n) {t:List Int→Option Mk} (ht:Holds wmK n g t) (hV : ∀ k x,t k=some x→WV x) (hh:DownOk wmLu n g i) :
  ACalls P F.wheap_down [.ptr nh 0,i64 i] H (fun _ H'=>(∃ g',HeapRaw (wp F nh na ni) v n g' H'∧Holds wmK n g' t∧HeapOk wmLu n g')∧Fra (wp F nh na ni).own H H'):=by
 refine fn_rule G.mixed G.wheap_down rfl [] (fun hcl=>?_)
 have hle:n<2147483648:=h.le
 have q1:=hN.hi
 simp only [go_sem]
 refine C_loop (fun k l H' => ∃ (g':Nat→Mk) (i':Nat),k=n-i'∧i'<n∧HeapRaw (wp F nh na ni) v n g' H'∧Holds wmK n g' t∧DownOk wmLu n g' i'∧Fra (wp F nh na ni).own H H'∧l=[(0,.ptr nh 0),(1,i64 i')]) (n-i)
  ⟨g,i,rfl,hi,h.mk',ht,hh,Fra.mk1,rfl⟩ ?_
 rintro k _ H1 ⟨g',i',rfl,hi',h1,hk1,hd,hf1,rfl⟩ _ hcl1
 refine ⟨[],?_⟩
 have w1:IntKind.i64.wrap (2*(i':Int))=((2*i':Nat):Int):=by rw [wrap64 (by omega) (by omega)]; omega
 have w2:IntKind.i64.wrap (((2*i':Nat):Int)+1)=((2*i'+1:Nat):Int):=wrapS (by omega)
 have w3:IntKind.i64.wrap (((2*i':Nat):Int)+2)=((2*i'+2:Nat):Int):=by rw [wrap64 (by omega) (by omega)]; omega
 simp only [go_sem,w1,w2]
 refine C_loop (fun k l H' => ∃ (c a:Nat),k+c=2*i'+3∧2*i'+1≤c∧Lst wmLu n g' i' c a∧HeapRaw (wp F nh na ni) v n g' H'∧Fra (wp F nh na ni).own H H'∧l=[(0,.ptr nh 0),(1,i64 i'),(4,i64 a),(5,i64 c)]) 2
  ⟨2*i'+1,i',by omega,Nat.le_refl _,Lst.start hi',h1.mk',hf1.mk',rfl⟩ ?_
 rintro k _ H2 ⟨c,a,hkc,hc1,hlst,h2,hf2,rfl⟩ _ hcl2
 refine ⟨[],?_⟩
 obtain ⟨u,cc,hu,r1,r2,r3⟩:=h2.sl (by omega)
 simp only at r1 r2 r3
 have hpar:c<2*i'+3→par c=i':=by unfold par; omega
 simp only [go_sem,w1,w3]
 refine EI_i (fun c1=>?_) (fun c1=>?_)
 rotate_left
 ·have c1 : ¬ c≤2*i'+2:=by simp at c1; omega
  have hall : ∀ x,0<x→x<n→par x=i'→wmLu (g' x) (g' a)=false:=fun x h1 h2 h3=>hlst.all x h1 h2 h3 (by unfold par at h3; omega)
  simp only [go_sem]
  refine EI_i (fun e=>?_) (fun e=>?_)
  ·have e:a=i':=by simp at e; omega
   subst e
   simp only [go_sem]
   exact ⟨⟨g',h2.mk',hk1,hd.ok hall⟩,hf2.mk'⟩
  ·have e:a≠i':=by simp at e; omega
   obtain ⟨a0,ap,al⟩:0<a∧par a=i'∧wmLu (g' a) (g' i')=true:=by
    rcases hlst.at_ with h | h
    ·exact absurd h e
    ·exact h
   have han:=hlst.le
   have hpl:=par_lt a0
   simp only [go_sem]
   refine CA_s [] (wheap_swap_c G hN (h2.mk' (s:=[])) hi' han) ?_
   rintro _ H3 ⟨h3,hf3⟩ _ _
   simp only [go_sem]
   exact ⟨n-a,_,rfl,by omega,swp g' i' a,a,rfl,han,h3.mk',hk1.swp hi' han,hd.step wmOrd a0 han ap al hall,(hf2.trans hf3.of_mk).mk',rfl⟩
 have c1:c≤2*i'+2:=by simp at c1; omega
 simp only [go_sem,r1]
 refine EI_i (fun c2=>?_) (fun c2=>?_)
 rotate_left
 ·have c2 : ¬ c<n:=by simp at c2; omega
  have hall : ∀ x,0<x→x<n→par x=i'→wmLu (g' x) (g' a)=false:=fun x h1 h2 h3=>hlst.all x h1 h2 h3 (by omega)
  simp only [go_sem]
  refine EI_i (fun e=>?_) (fun e=>?_)
  ·have e:a=i':=by simp at e; omega
   subst e
   simp only [go_sem]
   exact ⟨⟨g',h2.mk',hk1,hd.ok hall⟩,hf2.mk'⟩
  ·have e:a≠i':=by simp at e; omega
   obtain ⟨a0,ap,al⟩:0<a∧par a=i'∧wmLu (g' a) (g' i')=true:=by
    rcases hlst.at_ with h | h
    ·exact absurd h e
    ·exact h
   have han:=hlst.le
   have hpl:=par_lt a0
   simp only [go_sem]
   refine CA_s [] (wheap_swap_c G hN (h2.mk' (s:=[])) hi' han) ?_
   rintro _ H3 ⟨h3,hf3⟩ _ _
   simp only [go_sem]
   exact ⟨n-a,_,rfl,by omega,swp g' i' a,a,rfl,han,h3.mk',hk1.swp hi' han,hd.step wmOrd a0 han ap al hall,(hf2.trans hf3.of_mk).mk',rfl⟩
 have c2:c<n:=by simp at c2; omega
 have i0:(0:Int)≤(c:Int):=by omega
 have i1:(c:Int)<(n:Int):=by omega
 have a0:(0:Int)≤(a:Int):=by omega
 have a1:(a:Int)<(n:Int):=by have:=hlst.le; omega
 have i4:c*4+1+3≤cc:=by omega
 have a4:a*4+1+3≤cc:=by have:=hlst.le; omega
 have w4:=wrapS (i:=c) (by omega)
 simp only [go_sem,r1,r3,i0,i1,a0,a1,i4,a4,Int.toNat_natCast]
 refine CA_s [] (warm_lu_c G (hV _ _ (hk1.mem c c2)) (hV _ _ (hk1.mem a hlst.le))) ?_
 rintro _ H3 ⟨rfl,h3⟩ _ _
 have hr3:=h2.same hN h3.of_mk
 have hf3:=hf2.trans h3.of_mk.fra
 simp only [go_sem]
 refine EI_i (fun c3=>?_) (fun c3=>?_)
 ·simp only [go_sem,w4]
  exact ⟨k-1,_,rfl,by omega,c+1,c,by omega,by omega,hlst.up wmOrd (by omega) c2 (hpar (by omega)) c3,hr3.mk',hf3.mk',rfl⟩
 ·simp only [go_sem,w4]
  exact ⟨k-1,_,rfl,by omega,c+1,a,by omega,by omega,hlst.on (fun _=>c3),hr3.mk',hf3.mk',rfl⟩
theorem wheap_fix_c (G:Good P F) {nh na:Nm} {ni:Int→Nm} (hN:NmsOk nh na ni) {v:Int} {n:Nat} {g:Nat→Mk} {H:AH} (h:HeapRaw (wp F nh na ni) v n g H) {i:Nat} (hi:i<n) {t:List Int→Option Mk} (ht:Holds wmK n g t) (hV : ∀ k x,t k=some x→WV x) (hh:Hole wmLu n g i) :
  ACalls P F.wheap_fix [.ptr nh 0,i64 i] H (fun _ H'=>(∃ g',HeapRaw (wp F nh na ni) v n g' H'∧Holds wmK n g' t∧HeapOk wmLu n g')∧Fra (wp F nh na ni).own H H'):=by
 refine fn_rule G.mixed G.wheap_fix rfl [] (fun hcl=>?_)
 simp only [go_sem]
 refine CA_s [] (wheap_up_c G hN (h.mk' (s:=[])) hi ht hV hh) ?_
 rintro _ H1 ⟨⟨b,rfl,g1,h1,hk1,htt,hf⟩,hf1⟩ _ _
 simp only [go_sem]
 cases b with
 | true =>
  simp only [go_sem,Bool.not_true]
  exact ⟨⟨g1,h1.mk',hk1,htt rfl⟩,hf1.of_mk.mk'⟩
 | false =>
  obtain ⟨e,hd⟩:=hf rfl
  subst e
  simp only [go_sem,Bool.not_false]
  refine CA_s [] (wheap_down_c G hN (h1.mk' (s:=[])) hi hk1 hV hd) ?_
  rintro _ H2 ⟨⟨g2,h2,hk2,ho⟩,hf2⟩ _ _
  simp only [go_sem]
  exact ⟨⟨g2,h2.mk',hk2,ho⟩,(hf1.of_mk.trans hf2.of_mk).mk'⟩
end Go.Ab

namespace Go.Ab
open Go Gh
variable {P : Program} {F : Nums}
theorem wheap_Min_c (G:Good P F) {nh na:Nm} {ni:Int→Nm} (hN:NmsOk nh na ni) {v:Int} {t:List Int→Option Mk} {H:AH} (h:HeapAt (wp F nh na ni) v t H) :
  ACalls P F.wheap_Min [.ptr nh 0] H (fun r H'=>Same H H'∧((r=.tup [i64 0,.agg [u64 0,u64 0,i64 0],.bool false] ∧ ∀ k,t k=none) ∨
   ∃ x,r=.tup [i64 x.2.2,.agg (wmM x),.bool true]∧t (wmK x)=some x ∧ ∀ k y,t k=some y→wmLu y x=false)):=by
 refine fn_rule G.mixed G.wheap_Min rfl [] (fun hcl=>?_)
 obtain ⟨n,g,hr,ho,ht⟩:=h
 obtain ⟨sl,r1,r2⟩:=hr.row
 simp only at r1 r2
 have n3:(⟨0,H.k,0⟩:Nm)≠⟨0,H.k+1,0⟩:=tmp_nei (by omega)
 have n3':=n3.symm
 have nh0 : ∀ q,nh≠⟨0,H.k,q⟩:=fun q e=>hN.h (by rw [e])
 have ni0 : ∀ j q,ni j≠⟨0,H.k,q⟩:=fun j q e=>hN.i j (by rw [e])
 have hz:n=0 → ∀ k,t k=none:=fun e k=>by
  cases hk:t k with
  | none=>rfl
  | some x=>obtain ⟨_,i,hi,_⟩:=ht.sur k x hk; omega
 have f0:=(((Same.mk' (s:=([]:List Nm)) (Same.refl H)).set (nold (Int.le_refl _)) (n:=⟨0,H.k,0⟩) (o:=.row 3 (cs [u64 0,u64 0,i64 0]))).bmp (c:=1))
 rcases r2 with ⟨rfl,rfl⟩ | ⟨u,c,hu,rfl,q2,q3⟩
 ·simp only [go_sem,nh0,r1]
  refine EI_i (fun c1=>?_) (fun c1=>by simp at c1)
  simp only [go_sem,n3,n3',nh0,r1,holdsOk_cons,gd_none,pureV,forall_const,fr_lkp,and_self]
  exact ⟨((f0.set (nold (by omega))).bmp.set (nold (Int.le_refl _))),.inl (hz rfl)⟩
 ·simp only [go_sem,nh0,r1]
  refine EI_i (fun c1=>?_) (fun c1=>?_)
  ·have c1:n=0:=by simpa using c1
   simp only [go_sem,n3,n3',nh0,ni0,r1,q3,holdsOk_cons,gd_none,pureV,forall_const,fr_lkp,and_self]
   exact ⟨((f0.set (nold (by omega))).bmp.set (nold (Int.le_refl _))),.inl (hz c1)⟩
  ·have c1:n≠0:=by simpa using c1
   have i1:(0:Int)<(n:Int):=by omega
   have i2:0*4<c:=by omega
   have i4:0*4+1+3≤c:=by omega
   have t0:Int.toNat 0=0:=rfl
   have e0:rowOf 4 wmC g 0=i64 (g 0).2.2:=rfl
   have e1:rowOf 4 wmC g 1=u64 (g 0).1:=rfl
   have e2:rowOf 4 wmC g 2=u64 (g 0).2.1:=rfl
   have e3:rowOf 4 wmC g 3=i64 (g 0).2.2:=rfl
   have l0:(0:Int)≤0:=by omega
   simp only [go_sem,n3,n3',nh0,ni0,r1,q3,i1,i4,i2,l0,t0,e0,e1,e2,e3,holdsOk_cons,gd_none,pureV,forall_const,fr_lkp,and_self]
   refine ⟨(f0.set (nold (Int.le_refl _))),.inr ⟨g 0,rfl,ht.mem 0 (by omega),fun k y hy=>?_⟩⟩
   obtain ⟨_,i,hi,rfl⟩:=ht.sur k y hy
   exact ho.least wmOrd i hi
theorem wheap_New_c (G:Good P F) {nh na:Nm} {ni:Int→Nm} (hN:NmsOk nh na ni) {v:Int} {H:AH} (h1:H.f nh=none) (h2:H.f na=none) (h3 : ∀ j,v≤j→H.f (ni j)=none) :
  ACalls P F.wheap_New [.fn F.warm_less []] H (fun r H'=>r=.ptr nh 0∧HeapAt (wp F nh na ni) v (fun _=>none) H'∧Fra (wp F nh na ni).own H H'):=by
 refine fn_rule G.mixed G.wheap_New rfl [na,nh] (fun hcl=>?_)
 have q:=hN.ha
 simp only [go_sem,h1,h2,hN.h,hN.a,q]
 refine ⟨⟨0,fun _=>(0,0,0),⟨⟨.nils,by simp only [go_sem],.inl ⟨rfl,rfl⟩⟩,fun j hj=>?_,⟨fun _=>none,by simp only [go_sem,q.symm],fun i hi=>by omega,fun k x hx=>by cases hx⟩,fun i j hi=>by omega,by decide⟩,fun j h1 h2=>by omega,⟨(fun i hi=>by omega),(fun k x hx=>by cases hx),(fun i j hi=>by omega)⟩⟩,?_⟩
 ·have e1:ni j≠nh:=(hN.hi j).symm
  have e2:ni j≠na:=(hN.ai j).symm
  simp only [go_sem,e1,e2]
  exact h3 j hj
 ·exact (Fra.set (Fra.set Fra.mk1 (.inl (.inr (.inl rfl)))) (.inl (.inl rfl))).bmp
theorem wown_t {nh na:Nm} {ni:Int→Nm} (hN:NmsOk nh na ni) {n:Nm} (h:(wp F nh na ni).own n):n.t≠0:=by
 rcases h with rfl | rfl | ⟨j,rfl⟩
 ·exact hN.h
 ·exact hN.a
 ·exact hN.i j
theorem tset_none {t:List Int→Option Mk} {k j:List Int} {y:Mk} (h:tset t k none j=some y):t j=some y:=by
 unfold tset at h
 split at h
 ·cases h
 ·exact h
theorem tset_WV {t:List Int→Option Mk} (hV : ∀ k x,t k=some x→WV x) {k:List Int} {x:Mk} (hx:WV x) : ∀ j y,tset t k (some x) j=some y→WV y:=by
 intro j y h
 unfold tset at h
 split at h
 ·cases h; exact hx
 ·exact hV _ _ h
theorem wheap_Drop_c (G:Good P F) {nh na:Nm} {ni:Int→Nm} (hN:NmsOk nh na ni) {v:Int} {t:List Int→Option Mk} (hV : ∀ k x,t k=some x→WV x) {H:AH} (h:HeapAt (wp F nh na ni) v t H) {id:Int} :
  ACalls P F.wheap_Drop [.ptr nh 0,i64 id] H (fun r H'=>r=.bool (t [id]).isSome∧HeapAt (wp F nh na ni) v (tset t [id] none) H'∧Fra (wp F nh na ni).own H H'):=by
 refine fn_rule G.mixed G.wheap_Drop rfl [] (fun hcl=>?_)
 obtain ⟨n,g,hr,ho,ht⟩:=h
 obtain ⟨m,m1,m2,m3⟩:=hr.at_
 have hm:=mem_of_m hr ht m1 [id]
 obtain ⟨sl,r1,r2⟩:=hr.row
 simp only at m1 r1 r2 hm
 have hs1:Same H ⟨H.f,H.k,[]⟩:=Same.mk1
 rcases hm with ⟨t0,m0⟩ | ⟨i,hi,hk,ti,mi⟩
 ·simp only [go_sem,r1,m1,m0]
  refine ⟨by rw [t0]; rfl,⟨n,g,hr.same hN hs1,ho,?_⟩,hs1.fra⟩
  have:tset t [id] none=t:=by
   funext k
   unfold tset
   split
   ·rename_i e; rw [e,t0]
   ·rfl
  rw [this]; exact ht
 ·have hle:n<2147483648:=hr.le
  have w1:=wrapP (i:=n) (by omega) (by omega)
  obtain ⟨u,c,hu,q1,q2,q3⟩:=hr.sl (by omega)
  simp only at q1 q2 q3
  simp only [go_sem,q1,m1,mi,w1]
  refine CA_s [] (wheap_swap_c G hN ((hr.same hN hs1).mk' (s:=[])) hi (show n-1<n by omega)) ?_
  rintro _ H2 ⟨h2,hf2⟩ _ _
  obtain ⟨u2,c2,hu2,p1,p2,p3⟩:=h2.sl (by omega)
  obtain ⟨m',m1',m2',m3'⟩:=h2.at_
  simp only at p1 p2 p3 m1' m2' m3'
  have l1:(0:Int)≤((n-1:Nat):Int):=by omega
  have l2:((n-1:Nat):Int)≤(n:Int):=by omega
  have l0:(0:Int)≤0:=by omega
  have t0:Int.toNat 0=0:=rfl
  have qa:=hN.ha
  simp only [go_sem,p1,l0,l1,l2,t0,Int.toNat_natCast,Nat.sub_zero,qa.symm,m1']
  have hs2:swp g i (n-1) (n-1)=g i:=by unfold swp; rw [if_pos rfl]
  have ht2:Holds wmK (n-1+1) (swp g i (n-1)) t:=by rw [show n-1+1=n by omega]; exact ht.swp hi (by omega)
  have hp:=at_pop (ky:=wmK) (n:=n-1) (g:=swp g i (n-1)) (m:=m') (fun j hj=>m2' j (by omega)) (fun k x hx=>by obtain ⟨j,hj,e⟩:=m3' k x hx; exact ⟨j,by omega,e⟩) (fun a b ha hb=>h2.inj a b (by omega) (by omega))
  have ht3:=Holds.pop ht2
  rw [hs2,show wmK (g i)=[id] from hk] at hp ht3
  have hr3:HeapRaw (wp F nh na ni) v (n-1) (swp g i (n-1)) ⟨((⟨H2.f,H2.k,[]⟩:AH).set nh (AO.row 3 (cs [AV.fn F.warm_less [],AV.slice (ni u2) 4 0 (n-1),AV.map na]))).set na (AO.mp 1 (mset m' [id] none)) |>.f,H2.k,[]⟩:=by
   refine ⟨⟨_,?_,.inr ⟨u2,c2,hu2,rfl,by show (n-1)*4≤c2; omega,?_⟩⟩,?_,⟨_,?_,hp⟩,fun a b ha hb=>h2.inj a b (by omega) (by omega),by have:=h2.le; omega⟩
   ·simp only [go_sem,qa]
   ·simp only [go_sem,(hN.hi u2).symm,(hN.ai u2).symm]; exact p3
   ·intro j hj
    simp only [go_sem,(hN.hi j).symm,(hN.ai j).symm]
    exact h2.fresh j hj
   ·simp only [go_sem]
  have hf3:=Fra.set (Fra.set ((hs1.fra.trans hf2.of_mk).mk' (S:=(wp F nh na ni).own) (s:=([]:List Nm))) (n:=nh) (o:=(AO.row 3 (cs [AV.fn F.warm_less [],AV.slice (ni u2) 4 0 (n-1),AV.map na]))) (.inl (.inl rfl))) (n:=na) (o:=AO.mp 1 (mset m' [id] none)) (.inl (.inr (.inl rfl)))
  have hres:AV.bool true=.bool (t [id]).isSome:=by rw [ti]; rfl
  refine EI_i (fun c1=>?_) (fun c1=>?_)
  ·have c1:i<n-1:=by simp at c1; omega
   simp only [go_sem]
   have hh:Hole wmLu (n-1) (swp g i (n-1)) i:=by
    refine Hole.congr ((ho.less (m:=n-1) (by omega)).turn wmOrd i (g (n-1))) c1 fun k hk=>?_
    unfold swp
    rw [if_neg (by omega)]
   refine CA_s [] (wheap_fix_c G hN (hr3.congr (fun _ _=>rfl)) c1 ht3 (fun k y hy=>hV k y (tset_none hy)) hh) ?_
   rintro _ H4 ⟨⟨g4,h4,hk4,ho4⟩,hf4⟩ _ _
   simp only [go_sem]
   exact ⟨hres,⟨n-1,g4,h4.mk',ho4,hk4⟩,(hf3.trans hf4.of_mk).mk'⟩
  ·have c1:i=n-1:=by simp at c1; omega
   simp only [go_sem]
   refine ⟨hres,⟨n-1,_,hr3.congr (fun _ _=>rfl),?_,ht3⟩,hf3⟩
   subst c1
   rw [swp_same]
   exact ho.less (by omega)
section
variable {nh na : Nm} {ni : Int → Nm} {A B : AH} {o : AO}
theorem Fra.wh (h:Fra (wp F nh na ni).own A B):Fra (wp F nh na ni).own A (B.set nh o):=Fra.set h (.inl (.inl rfl))
theorem Fra.wa (h:Fra (wp F nh na ni).own A B):Fra (wp F nh na ni).own A (B.set na o):=Fra.set h (.inl (.inr (.inl rfl)))
theorem Fra.wi (j:Int) (h:Fra (wp F nh na ni).own A B):Fra (wp F nh na ni).own A (B.set (ni j) o):=Fra.set h (.inl (.inr (.inr ⟨j,rfl⟩)))
end
theorem wheap_Set_1 (G:Good P F) {nh na:Nm} {ni:Int→Nm} (hN:NmsOk nh na ni) {v:Int} {t:List Int→Option Mk} (hF:FinT t (2 ^ 31-2)) (hV : ∀ k x,t k=some x→WV x) {H:AH} {n:Nat} {g:Nat→Mk} (hr:HeapRaw (wp F nh na ni) v n g H) (ho:HeapOk wmLu n g) (ht:Holds wmK n g t) {x d id:Int} (hW:WV (x,d,id)) {u:Int} (hu:u<v) (r1:H.f nh=some (.row 3 (cs [.fn F.warm_less [],.slice (ni u) 4 0 n,.map na]))) (q3:H.f (ni u)=some (.row (n*4) (rowOf 4 wmC g))) (t0:t [id]=none) :
  ACalls P F.wheap_Set [.ptr nh 0,i64 id,.agg [u64 x,u64 d,i64 id]] H (fun _ H'=>(∃ v',HeapAt (wp F nh na ni) v' (tset t [id] (some (x,d,id))) H')∧Fra (wp F nh na ni).own H H'):=by
 refine fn_rule G.mixed G.wheap_Set rfl [ni v,ni (v+1),ni (v+2)] (fun hcl=>?_)
 have hle:n≤2 ^ 31-2:=Holds.le ht hF
 have hle':n<2147483647:=by omega
 obtain ⟨m,m1,m2,m3⟩:=hr.at_
 simp only at m1 m2 m3
 have f0:=hr.fresh v (by omega)
 have f1:=hr.fresh (v+1) (by omega)
 have f2:=hr.fresh (v+2) (by omega)
 simp only at f0 f1 f2
 have d01:=hN.ne (j:=v) (k:=v+1) (by omega)
 have d02:=hN.ne (j:=v) (k:=v+2) (by omega)
 have d12:=hN.ne (j:=v+1) (k:=v+2) (by omega)
 have hi:=hN.hi
 have ai:=hN.ai
 have hi' : ∀ j,ni j≠nh:=fun j=>(hN.hi j).symm
 have ai' : ∀ j,ni j≠na:=fun j=>(hN.ai j).symm
 have ha:=hN.ha
 have it:=hN.i
 have m0:m [id]=none:=by
  rcases mem_of_m hr ht m1 [id] with h | ⟨i,_,_,h,_⟩
  ·exact h.2
  ·rw [h] at t0; cases t0
 have p32:(2 ^ 32<4)=False:=by simp
 have n32:n≤2 ^ 32:=by omega
 have u0:=hN.ne (j:=u) (k:=v) (by omega)
 have u1:=hN.ne (j:=u) (k:=v+1) (by omega)
 have u2:=hN.ne (j:=u) (k:=v+2) (by omega)
 have i0:(0:Int)≤(n:Int):=by omega
 have i1:(n:Int)<((n+1:Nat):Int):=by omega
 have i4:n*4+1+3≤n*4+4:=by omega
 simp only [go_sem,f0,f1,f2,it,hi,ai,hi',ai',ha,ha.symm,d01,d02,d12,d01.symm,d02.symm,d12.symm,r1,m1,m0,q3,p32,n32,u0,u1,u2,u0.symm,u1.symm,u2.symm,i0,i1,i4,Int.toNat_natCast,or_self,Nat.reduceDiv]
 have hsn:=Holds.snoc ht (x:=(x,d,id)) t0
 have hat:=at_snoc (ky:=wmK) m2 m3 (x:=(x,d,id)) m0
 refine CA_s [] (ACalls.pre (Wk.row (n:=ni (v+2)) (c':=(n+1)*4) (g':=rowOf 4 wmC (fun k=>if k=n then (x,d,id) else g k)) (by simp only [go_sem]; rfl) (by omega) (fun i hi=>row_snoc (e:=4) (x:=(x,d,id)) (a:=[i64 id]) (b:=[u64 x,u64 d,i64 id]) rfl rfl (by decide) (by omega)))
  (wheap_fix_c G hN (v:=v+4) (n:=n+1) (g:=fun k=>if k=n then (x,d,id) else g k) (i:=n) ?_ (by omega) hsn (tset_WV hV hW) (ho.snoc (x,d,id)))) ?_
 ·refine ⟨⟨_,by simp only [go_sem,hi,ha],.inr ⟨v+2,(n+1)*4,by omega,rfl,Nat.le_refl _,by simp only [go_sem]⟩⟩,?_,⟨_,by simp only [go_sem,ai]; rfl,hat.1,hat.2⟩,hsn.inj,by show n+1<2 ^ 31; omega⟩
  intro j hj
  have e0:=hN.ne (j:=j) (k:=v) (by omega)
  have e1:=hN.ne (j:=j) (k:=v+1) (by omega)
  have e2:=hN.ne (j:=j) (k:=v+2) (by omega)
  have eu:=hN.ne (j:=j) (k:=u) (by omega)
  simp only [go_sem,e0,e1,e2,eu,hi',ai']
  exact hr.fresh j (by omega)
 rintro _ H4 ⟨⟨g4,h4,hk4,ho4⟩,hf4⟩ _ _
 simp only [go_sem]
 exact ⟨⟨v+4,n+1,g4,h4.mk',ho4,hk4⟩,(Fra.trans (Fra.wi _ (Fra.mk' (Fra.wi _ (Fra.wa (Fra.bmp (Fra.wh (Fra.wi _ (Fra.wi _ (Fra.wi _ (Fra.bmp (Fra.wi _ Fra.mk1))))))))))) hf4).mk'⟩
theorem wheap_Set_0 (G:Good P F) {nh na:Nm} {ni:Int→Nm} (hN:NmsOk nh na ni) {v:Int} {t:List Int→Option Mk} (hF:FinT t (2 ^ 31-2)) (hV : ∀ k x,t k=some x→WV x) {H:AH} {g:Nat→Mk} (hr:HeapRaw (wp F nh na ni) v 0 g H) (ho:HeapOk wmLu 0 g) (ht:Holds wmK 0 g t) {x d id:Int} (hW:WV (x,d,id)) (r1:H.f nh=some (.row 3 (cs [.fn F.warm_less [],.nils,.map na]))) :
  ACalls P F.wheap_Set [.ptr nh 0,i64 id,.agg [u64 x,u64 d,i64 id]] H (fun _ H'=>(∃ v',HeapAt (wp F nh na ni) v' (tset t [id] (some (x,d,id))) H')∧Fra (wp F nh na ni).own H H'):=by
 refine fn_rule G.mixed G.wheap_Set rfl [ni v,ni (v+1),ni (v+2)] (fun hcl=>?_)
 obtain ⟨m,m1,m2,m3⟩:=hr.at_
 simp only at m1 m2 m3
 have f0:=hr.fresh v (by omega)
 have f1:=hr.fresh (v+1) (by omega)
 have f2:=hr.fresh (v+2) (by omega)
 simp only at f0 f1 f2
 have d01:=hN.ne (j:=v) (k:=v+1) (by omega)
 have d02:=hN.ne (j:=v) (k:=v+2) (by omega)
 have d12:=hN.ne (j:=v+1) (k:=v+2) (by omega)
 have hi:=hN.hi
 have ai:=hN.ai
 have hi' : ∀ j,ni j≠nh:=fun j=>(hN.hi j).symm
 have ai' : ∀ j,ni j≠na:=fun j=>(hN.ai j).symm
 have ha:=hN.ha
 have it:=hN.i
 have t0:t [id]=none:=by
  cases hk:t [id] with
  | none=>rfl
  | some y=>obtain ⟨_,i,hi,_⟩:=ht.sur _ y hk; omega
 have m0:m [id]=none:=by
  rcases mem_of_m hr ht m1 [id] with h | ⟨i,_,_,h,_⟩
  ·exact h.2
  ·rw [h] at t0; cases t0
 have p32:(2 ^ 32<4)=False:=by simp
 have l0:(0:Int)≤0:=by omega
 have l1:(0:Int)<((1:Nat):Int):=by omega
 have i4:0*4+1+3≤5:=by omega
 have z0:Int.toNat 0=0:=rfl
 simp only [go_sem,f0,f1,f2,it,hi,ai,hi',ai',ha,ha.symm,d01,d02,d12,d01.symm,d02.symm,d12.symm,r1,m1,m0,p32,l0,l1,i4,z0,or_self,Nat.reduceDiv]
 refine ⟨by decide,?_⟩
 have hsn:=Holds.snoc ht (x:=(x,d,id)) t0
 have hat:=at_snoc (ky:=wmK) m2 m3 (x:=(x,d,id)) m0
 refine CA_s [] (ACalls.pre (Wk.row (n:=ni (v+2)) (c':=1*4) (g':=rowOf 4 wmC (fun k=>if k=0 then (x,d,id) else g k)) (by simp only [go_sem]; rfl) (by omega) (fun i hi=>by
  have:i=0∨i=1∨i=2∨i=3:=by omega
  rcases this with rfl | rfl | rfl | rfl <;> rfl))
  (wheap_fix_c G hN (v:=v+4) (n:=0+1) (g:=fun k=>if k=0 then (x,d,id) else g k) (i:=0) ?_ (by omega) hsn (tset_WV hV hW) (ho.snoc (x,d,id)))) ?_
 ·refine ⟨⟨_,by simp only [go_sem,hi,ha],.inr ⟨v+2,1*4,by omega,rfl,Nat.le_refl _,by simp only [go_sem]⟩⟩,?_,⟨_,by simp only [go_sem,ai]; rfl,hat.1,hat.2⟩,hsn.inj,by decide⟩
  intro j hj
  have e0:=hN.ne (j:=j) (k:=v) (by omega)
  have e1:=hN.ne (j:=j) (k:=v+1) (by omega)
  have e2:=hN.ne (j:=j) (k:=v+2) (by omega)
  simp only [go_sem,e0,e1,e2,hi',ai']
  exact hr.fresh j (by omega)
 rintro _ H4 ⟨⟨g4,h4,hk4,ho4⟩,hf4⟩ _ _
 simp only [go_sem]
 exact ⟨⟨v+4,0+1,g4,h4.mk',ho4,hk4⟩,(Fra.trans (Fra.wi _ (Fra.mk' (Fra.wi _ (Fra.wa (Fra.bmp (Fra.wh (Fra.wi _ (Fra.wi _ (Fra.bmp (Fra.wi _ Fra.mk1)))))))))) hf4).mk'⟩
theorem wheap_Set_2 (G:Good P F) {nh na:Nm} {ni:Int→Nm} (hN:NmsOk nh na ni) {v:Int} {t:List Int→Option Mk} (hF:FinT t (2 ^ 31-2)) (hV : ∀ k x,t k=some x→WV x) {H:AH} {n:Nat} {g:Nat→Mk} (hr:HeapRaw (wp F nh na ni) v n g H) (ho:HeapOk wmLu n g) (ht:Holds wmK n g t) {x d id:Int} (hW:WV (x,d,id)) {i:Nat} (hin:i<n) (hk:wmK (g i)=[id]) :
  ACalls P F.wheap_Set [.ptr nh 0,i64 id,.agg [u64 x,u64 d,i64 id]] H (fun _ H'=>(∃ v',HeapAt (wp F nh na ni) v' (tset t [id] (some (x,d,id))) H')∧Fra (wp F nh na ni).own H H'):=by
 refine fn_rule G.mixed G.wheap_Set rfl [ni v,ni (v+1),ni (v+2)] (fun hcl=>?_)
 have hle:n≤2 ^ 31-2:=Holds.le ht hF
 have hle':n<2147483647:=by omega
 obtain ⟨m,m1,m2,m3⟩:=hr.at_
 simp only at m1 m2 m3
 have f0:=hr.fresh v (by omega)
 have f1:=hr.fresh (v+1) (by omega)
 have f2:=hr.fresh (v+2) (by omega)
 simp only at f0 f1 f2
 have d01:=hN.ne (j:=v) (k:=v+1) (by omega)
 have d02:=hN.ne (j:=v) (k:=v+2) (by omega)
 have d12:=hN.ne (j:=v+1) (k:=v+2) (by omega)
 have hi:=hN.hi
 have ai:=hN.ai
 have hi' : ∀ j,ni j≠nh:=fun j=>(hN.hi j).symm
 have ai' : ∀ j,ni j≠na:=fun j=>(hN.ai j).symm
 have ha:=hN.ha
 have it:=hN.i
 have mi:m [id]=some (i64 i):=by rw [← hk]; exact m2 i hin
 obtain ⟨u,c,hu,q1,q2,q3⟩:=hr.sl (by omega)
 simp only at q1 q2 q3
 have i0:(0:Int)≤(i:Int):=by omega
 have i1:(i:Int)<(n:Int):=by omega
 have i4:i*4+1+3≤c:=by omega
 have u0:=hN.ne (j:=u) (k:=v) (by omega)
 have u1:=hN.ne (j:=u) (k:=v+1) (by omega)
 have hkey:(g i).2.2=id:=by
  have : [(g i).2.2]=[id]:=hk
  simpa using this
 have s1:updN (rowOf 4 wmC g) (i*4+1) [u64 x,u64 d,i64 id]=rowOf 4 wmC (fun l=>if l=i then (x,d,id) else g l):=by
  refine rowOf_updN (by show 1+3≤4; omega) (by decide) fun k hk=>?_
  have:k=0∨k=1∨k=2∨k=3:=by omega
  rcases this with rfl | rfl | rfl | rfl <;> simp [hkey]
 simp only [go_sem,f0,f1,f2,it,hi,ai,hi',ai',ha,ha.symm,d01,d02,d12,d01.symm,d02.symm,d12.symm,q1,m1,mi,i0,i1,i4,q3,u0,u1,u0.symm,u1.symm,Int.toNat_natCast,s1]
 have hf:Fra (wp F nh na ni).own H (((bmp 1 ((⟨H.f,H.k,[ni v,ni (v+1),ni (v+2)]⟩:AH).set (ni v) (AO.row 3 (cs [u64 x,u64 d,i64 id])))).set (ni u) (AO.row c (rowOf 4 wmC (fun l=>if l=i then (x,d,id) else g l))))) :=
  Fra.set (Fra.bmp (Fra.set Fra.mk1 (.inl (.inr (.inr ⟨_,rfl⟩))))) (.inl (.inr (.inr ⟨_,rfl⟩)))
 have hr':HeapRaw (wp F nh na ni) (v+4) n (fun l=>if l=i then (x,d,id) else g l) (((bmp 1 ((⟨H.f,H.k,[ni v,ni (v+1),ni (v+2)]⟩:AH).set (ni v) (AO.row 3 (cs [u64 x,u64 d,i64 id])))).set (ni u) (AO.row c (rowOf 4 wmC (fun l=>if l=i then (x,d,id) else g l))))):=by
  have kk : ∀ k,wmK (if k=i then (x,d,id) else g k)=wmK (g k):=fun k=>by
   split
   ·rename_i e; subst e; rw [hk]; rfl
   ·rfl
  refine ⟨⟨_,?_,.inr ⟨u,c,by omega,rfl,q2,?_⟩⟩,?_,⟨m,?_,fun k hk'=>by rw [show (wp F nh na ni).ky=wmK from rfl,kk]; exact m2 k hk',fun k y hy=>by
   obtain ⟨l,h1,h2,h3⟩:=m3 k y hy
   exact ⟨l,h1,by rw [show (wp F nh na ni).ky=wmK from rfl,kk]; exact h2,h3⟩⟩,fun a b h1 h2 h3=>hr.inj a b h1 h2 (by rw [show (wp F nh na ni).ky=wmK from rfl,kk,kk] at h3; exact h3),hr.le⟩
  ·simp only [go_sem,hi,q1]
  ·simp only [go_sem]
  ·intro j hj
   have e0:=hN.ne (j:=j) (k:=v) (by omega)
   have e1:=hN.ne (j:=j) (k:=v+1) (by omega)
   have e2:=hN.ne (j:=j) (k:=u) (by omega)
   simp only [go_sem,e0,e1,e2]
   exact hr.fresh j (by omega)
  ·simp only [go_sem,ai,m1]
 refine CA_s [] (wheap_fix_c G hN (hr'.congr (fun _ _=>rfl)) hin (Holds.turn ht hin (x:=(x,d,id)) hk.symm) (tset_WV hV hW) (ho.turn wmOrd i (x,d,id))) ?_
 rintro _ H4 ⟨⟨g4,h4,hk4,ho4⟩,hf4⟩ _ _
 simp only [go_sem]
 exact ⟨⟨v+4,n,g4,h4.mk',ho4,hk4⟩,(hf.trans hf4.of_mk).mk'⟩
theorem wheap_Set_c (G:Good P F) {nh na:Nm} {ni:Int→Nm} (hN:NmsOk nh na ni) {v:Int} {t:List Int→Option Mk} (hF:FinT t (2 ^ 31-2)) (hV : ∀ k x,t k=some x→WV x) {H:AH} (h:HeapAt (wp F nh na ni) v t H) {x d id:Int} (hW:WV (x,d,id)) :
  ACalls P F.wheap_Set [.ptr nh 0,i64 id,.agg [u64 x,u64 d,i64 id]] H (fun _ H'=>(∃ v',HeapAt (wp F nh na ni) v' (tset t [id] (some (x,d,id))) H')∧Fra (wp F nh na ni).own H H'):=by
 obtain ⟨n,g,hr,ho,ht⟩:=h
 cases hk:t [id] with
 | some y =>
  obtain ⟨h1,i,h2,h3⟩:=ht.sur _ _ hk
  exact wheap_Set_2 G hN hF hV hr ho ht hW h2 (by rw [h3]; exact h1)
 | none =>
  obtain ⟨sl,r1,r2⟩:=hr.row
  simp only at r1 r2
  rcases r2 with ⟨rfl,rfl⟩ | ⟨u,c,hu,rfl,q2,q3⟩
  ·exact wheap_Set_0 G hN hF hV hr ho ht hW r1
  ·refine ACalls.pre (Wk.row (n:=ni u) (c':=n*4) (g':=rowOf 4 wmC g) q3 q2 (fun _ _=>rfl)) ?_
   have hr':HeapRaw (wp F nh na ni) v n g (H.set (ni u) (.row (n*4) (rowOf 4 wmC g))):=by
    obtain ⟨m,m1,m2⟩:=hr.at_
    refine ⟨⟨_,by simp only [go_sem,hN.hi]; exact r1,.inr ⟨u,n*4,hu,rfl,Nat.le_refl _,by simp only [go_sem]⟩⟩,fun j hj=>?_,⟨m,by simp only [go_sem,hN.ai]; exact m1,m2⟩,hr.inj,hr.le⟩
    have e:=hN.ne (j:=j) (k:=u) (by omega)
    simp only [go_sem,e]; exact hr.fresh j hj
   refine (wheap_Set_1 G hN hF hV hr' ho ht hW hu (by simp only [go_sem,hN.hi]; exact r1) (by simp only [go_sem]) hk).post fun w H' hh _ _=>⟨H',Wk.refl _,hh.1,?_⟩
   exact Fra.trans (Fra.set (Fra.refl _ _) (.inl (.inr (.inr ⟨_,rfl⟩)))) hh.2
end Go.Ab

namespace Go.Ab
open Go Gh
variable {P : Program} {F : Nums}
theorem cacN (c:Nat) (h g:Int):NmsOk (nCHeap c h g) (nCAt c h g) (nCItems c h) where
 h:=tg_ne0
 a:=tg_ne0
 i _:=tg_ne0
 ha e:=by have:=congrArg Nm.t e; simp [tg_inj] at this
 hi _ e:=by have:=congrArg Nm.t e; simp [tg_inj] at this
 ai _ e:=by have:=congrArg Nm.t e; simp [tg_inj] at this
 inj j k e:=congrArg Nm.j e
structure WarmAt (F:Nums) (c:Nat) (h g:Int) (t:List Int→Option Mk) (ck:Int) (H:AH):Prop where
 row:H.f (nCache c h g)=some (.row 2 (cs [.ptr (nCHeap c h g) 0,u64 ck]))
 heap : ∃ v,HeapAt (wp F (nCHeap c h g) (nCAt c h g) (nCItems c h)) v t H
abbrev warO (F:Nums) (c:Nat) (h g:Int):Nm→Prop:=(wp F (nCHeap c h g) (nCAt c h g) (nCItems c h)).own
theorem warO_t {c:Nat} {h g:Int} {n:Nm} (hn:warO F c h g n):n.t=tg c 12∨n.t=tg c 13∨n.t=tg c 14:=by
 rcases hn with rfl | rfl | ⟨j,rfl⟩
 ·exact .inl rfl
 ·exact .inr (.inr rfl)
 ·exact .inr (.inl rfl)
theorem nCache_no {c:Nat} {h g h' g':Int} : ¬ warO F c h g (nCache c h' g'):=fun h=>by
 rcases warO_t h with h | h | h <;> simp [tg_inj] at h
theorem nCache_old {c:Nat} {h g:Int} {H:AH}:old H (nCache c h g):=old_of tg_ne0
theorem WarmAt.same {c:Nat} {h g:Int} {t:List Int→Option Mk} {ck:Int} {H H':AH} (hw:WarmAt F c h g t ck H) (hs:Same H H'):WarmAt F c h g t ck H':=by
 obtain ⟨r,v,hh⟩:=hw
 exact ⟨by rw [hs.at_ _ nCache_old]; exact r,v,hh.congr fun m hm=>hs.at_ m (old_of (wown_t (cacN c h g) hm))⟩
theorem warm_Drop_c (G:Good P F) {c:Nat} {h g:Int} {t:List Int→Option Mk} {ck:Int} (hV : ∀ k x,t k=some x→WV x) {H:AH} (hw:WarmAt F c h g t ck H) {id:Int} :
  ACalls P F.warm_Drop [.ptr (nCache c h g) 0,i64 id] H (fun r H'=>r=.bool (t [id]).isSome∧WarmAt F c h g (tset t [id] none) ck H'∧Fra (warO F c h g) H H'):=by
 refine fn_rule G.mixed G.warm_Drop rfl [] (fun hcl=>?_)
 obtain ⟨r,v,hh⟩:=hw
 simp only [go_sem,r]
 refine CA_s [] (wheap_Drop_c G (cacN c h g) hV (H:=⟨H.f,H.k,[]⟩) (hh.congr (fun _ _=>rfl))) ?_
 rintro _ H1 ⟨rfl,h1,hf1⟩ _ _
 simp only [go_sem]
 have hf:=hf1.of_mk
 exact ⟨⟨by rw [← r]; exact hf.at_ _ nCache_old nCache_no,v,h1.congr (fun _ _=>rfl)⟩,hf.mk'⟩
theorem warm_New_c (G:Good P F) {c:Nat} {h g:Int} {v:Int} {H:AH} (h0:H.f (nCache c h g)=none) (h1:H.f (nCHeap c h g)=none) (h2:H.f (nCAt c h g)=none) (h3 : ∀ j,v≤j→H.f (nCItems c h j)=none) :
  ACalls P F.warm_New [] H (fun r H'=>r=.ptr (nCache c h g) 0∧WarmAt F c h g (fun _=>none) 0 H'∧Fra (fun n=>warO F c h g n∨n=nCache c h g) H H'):=by
 refine fn_rule G.mixed G.warm_New rfl [nCache c h g] (fun hcl=>?_)
 simp only [go_sem]
 refine CA_s [nCache c h g] (wheap_New_c G (cacN c h g) (v:=v) h1 h2 h3) ?_
 rintro _ H1 ⟨rfl,h1,hf1⟩ _ _
 have e0:H1.f (nCache c h g)=none:=by rw [← h0]; exact hf1.at_ _ nCache_old nCache_no
 simp only [go_sem,tg_ne0,e0]
 refine ⟨⟨by simp only [go_sem],v,h1.congr fun m hm=>?_⟩,?_⟩
 ·have:m≠nCache c h g:=fun e=>nCache_no (e ▸ hm)
  simp only [go_sem,this]
 ·exact Fra.bmp (Fra.set (hf1.of_mk.mono fun _ h=>.inl h).mk' (.inl (.inr rfl)))
theorem warm_Set_c (G:Good P F) {c:Nat} {h g:Int} {t:List Int→Option Mk} {ck:Int} (hF:FinT t (2 ^ 31-2)) (hV : ∀ k x,t k=some x→WV x) {H:AH} (hw:WarmAt F c h g t ck H) {id a b d:Int}
  (hc0:0≤ck) (hck:ck<18446744073709551616) (ha:0≤a) (hb:0≤b) (hd:0<d) (hd':d<18446744073709551616) (hm:ck*d+a*b<18446744073709551616) :
  ACalls P F.warm_Set [.ptr (nCache c h g) 0,i64 id,u64 a,u64 b,u64 d] H (fun r H'=>r=.bool true∧WarmAt F c h g (tset t [id] (some (ck*d+a*b,d,id))) ck H'∧Fra (warO F c h g) H H'):=by
 refine fn_rule G.mixed G.warm_Set rfl [] (fun hcl=>?_)
 obtain ⟨r,v,hh⟩:=hw
 have hab:0≤a*b:=Int.mul_nonneg ha hb
 have hcd:0≤ck*d:=Int.mul_nonneg hc0 (by omega)
 have w1:IntKind.u64.wrap (a*b)=a*b:=wrapu64 hab (by omega)
 have hW:WV (ck*d+a*b,d,id):=⟨⟨by show 0≤ck*d+a*b; omega,hm⟩,⟨Int.le_of_lt hd,hd'⟩,hd⟩
 simp only [go_sem,r,w1]
 refine CA_s [] (Above_c G hc0 hab hd hm hck (by omega) hd') ?_
 rintro _ H1 ⟨rfl,h1⟩ _ _
 have hs1:Same H H1:=h1.of_mk
 have r1:H1.f (nCache c h g)=_:=hs1.some nCache_old r
 have n1 : ∀ q,nCache c h g≠⟨0,H1.k,q⟩:=fun q e=>tg_ne0 (congrArg Nm.t e)
 have hs2:=((hs1.mk' (s:=([]:List Nm))).set (nold hs1.k) (n:=⟨0,H1.k,0⟩) (o:=.row 2 (cs [u64 (ck*d+a*b),u64 d]))).bmp (c:=1)
 simp only [go_sem,r1,n1]
 refine CA_s [] (wheap_Set_c G (cacN c h g) hF hV (H:=bmp 1 ((⟨H1.f,H1.k,[]⟩:AH).set ⟨0,H1.k,0⟩ (.row 2 (cs [u64 (ck*d+a*b),u64 d])))) (v:=v) (hh.congr fun m hm=>hs2.at_ m (old_of (wown_t (cacN c h g) hm))) hW) ?_
 rintro _ H2 ⟨⟨v',h2⟩,hf2⟩ _ _
 have hf:=hs2.fra.trans hf2
 simp only [go_sem]
 exact ⟨⟨by rw [← r]; exact hf.at_ _ nCache_old nCache_no,v',h2.congr (fun _ _=>rfl)⟩,hf.mk'⟩
theorem warm_Evict_c (G:Good P F) {c:Nat} {h g:Int} {t:List Int→Option Mk} {ck:Int} (hV : ∀ k x,t k=some x→WV x) {H:AH} (hw:WarmAt F c h g t ck H) :
  ACalls P F.warm_Evict [.ptr (nCache c h g) 0] H (fun r H'=>Fra (fun n=>warO F c h g n∨n=nCache c h g) H H' ∧
   ((r=.tup [i64 0,.bool false]∧WarmAt F c h g t ck H' ∧ ∀ k,t k=none) ∨
    ∃ x,r=.tup [i64 x.2.2,.bool true]∧t (wmK x)=some x∧(∀ k y,t k=some y→wmLt y x=false)∧WarmAt F c h g (tset t (wmK x) none) (max ck (x.1 / x.2.1)) H')):=by
 refine fn_rule G.mixed G.warm_Evict rfl [] (fun hcl=>?_)
 have hw0:=hw
 obtain ⟨r,v,hh⟩:=hw
 simp only [go_sem,r]
 refine CA_s [] (wheap_Min_c G (cacN c h g) (hh.congr (fun _ _=>rfl))) ?_
 rintro _ H1 ⟨h1,hr⟩ hk1 _
 have hk1:H.k≤H1.k:=hk1
 have hs1:Same H H1:=h1.of_mk
 rcases hr with ⟨rfl,hr⟩ | ⟨x,rfl,hr,hl⟩
 ·simp only [go_sem]
  have hs2:=((hs1.mk' (s:=([]:List Nm))).set (nold hs1.k) (n:=⟨0,H1.k,0⟩) (o:=.row 3 (cs [u64 0,u64 0,i64 0]))).bmp (c:=1)
  exact ⟨hs2.fra,.inl ⟨hw0.same hs2,hr⟩⟩
 ·have hx:=hV _ _ hr
  have r1:H1.f (nCache c h g)=_:=hs1.some nCache_old r
  have n1 : ∀ q,nCache c h g≠⟨0,H1.k,q⟩:=fun q e=>tg_ne0 (congrArg Nm.t e)
  have hs2:=((hs1.mk' (s:=([]:List Nm))).set (nold hs1.k) (n:=⟨0,H1.k,0⟩) (o:=.row 3 (cs (wmM x)))).bmp (c:=1)
  simp only [go_sem,r1,n1]
  refine CA_s [] (wheap_Drop_c G (cacN c h g) hV (H:=bmp 1 ((⟨H1.f,H1.k,[]⟩:AH).set ⟨0,H1.k,0⟩ (.row 3 (cs (wmM x))))) (hh.congr fun m hm=>hs2.at_ m (old_of (wown_t (cacN c h g) hm)))) ?_
  rintro _ H2 ⟨rfl,h2,hf2⟩ hk2 _
  have hk2:H1.k+1≤H2.k:=hk2
  have hb2:=Fra.tmp_at' hf2 (fun n=>wown_t (cacN c h g)) (i:=H1.k) (q:=0) (by show H1.k<H1.k+1; omega) (by simp only [go_sem]; rfl)
  have hf:=hs2.fra.trans hf2
  have r2:H2.f (nCache c h g)=_:=(hf.at_ _ nCache_old nCache_no).trans r
  simp only [go_sem,r2,hb2]
  refine CA_s [] (Ratio_Floor_c G (a:=(x.1,x.2.1)) hx.1 hx.2.2) ?_
  rintro _ H3 ⟨rfl,h3⟩ hk3 _
  have h3:Same H2 H3:=h3.of_mk
  have hk3:H2.k≤H3.k:=hk3
  have r3:H3.f (nCache c h g)=_:=h3.some nCache_old r2
  simp only [go_sem,r3,holdsOk_cons,gd_none,pureV,forall_const,fr_lkp]
  have hf3:=hf.trans h3.fra
  refine ⟨(hf3.mono fun _ h=>.inl h).mk'.set (.inl (.inr rfl)),.inr ⟨x,rfl,hr,fun k y hy=>by rw [← wmLu_eq (hV _ _ hy) hx]; exact hl k y hy,⟨by simp only [go_sem],v,(h2.congr fun m hm=>?_)⟩⟩⟩
  have:m≠nCache c h g:=fun e=>nCache_no (e ▸ hm)
  simp only [go_sem,this]
  exact h3.at_ m (old_of (wown_t (cacN c h g) hm))
end Go.Ab

namespace Go.Ab
open Go Gh
variable {P : Program} {F : Nums}
theorem histG_b {h:Histo} {k:Nat} (hk:k<240):histG h k=i64 (h.bins k):=by unfold histG; rw [if_pos hk]
theorem histG_i {h:Histo}:histG h 240=i64 h.inn:=rfl
theorem histG_o {h:Histo}:histG h 241=i64 h.over:=rfl
theorem histG_ub {h:Histo} {k:Nat} (hk:k<240) {v:Int}:upd (histG h) k (i64 v)=histG { h with bins:=upn h.bins k v }:=by
 funext j
 simp only [upd,histG,upn]
 by_cases e:j=k
 ·subst e; simp [hk]
 ·simp [e]
theorem histG_ui {h:Histo} {v:Int}:upd (histG h) 240 (i64 v)=histG { h with inn:=v }:=by
 funext j
 simp only [upd,histG]
 by_cases e:j=240
 ·subst e; simp
 ·simp [e]
theorem histG_uo {h:Histo} {v:Int}:upd (histG h) 241 (i64 v)=histG { h with over:=v }:=by
 funext j
 simp only [upd,histG]
 by_cases e:j=241
 ·subst e; simp
 ·simp [e]
theorem histo_New_c (G:Good P F) {n:Nm} (ht:n.t≠0) {H:AH} (hn:H.f n=none) :
  ACalls P F.histo_New [] H (fun v H'=>v=.ptr n 0∧H'.f n=some (.row 242 (histG {}))∧Fra (At n) H H'):=by
 refine fn_rule G.mixed G.histo_New rfl [n] (fun hcl=>?_)
 simp only [go_sem,hn,ht]
 have e:cs (List.replicate 242 (AV.int IntKind.i64 0))=histG {}:=by
  funext k
  unfold cs histG
  by_cases h:k<242
  ·rw [List.getD_eq_getElem?_getD,List.getElem?_replicate,if_pos h]
   by_cases h1:k<240
   ·rw [if_pos h1]; rfl
   ·rw [if_neg h1]
    by_cases h2:k=240
    ·rw [if_pos h2]; rfl
    ·rw [if_neg h2,if_pos (by omega)]; rfl
  ·rw [List.getD_eq_getElem?_getD,List.getElem?_replicate,if_neg h,if_neg (by omega),if_neg (by omega),if_neg (by omega)]; rfl
 rw [e,List.length_replicate]
 exact ⟨List.all_replicate ..,rfl,(Fra.mk1.s1).bmp⟩
theorem ring_New_c (G:Good P F) {n:Nm} (ht:n.t≠0) {H:AH} (hn:H.f n=none) :
  ACalls P F.ring_New [] H (fun v H'=>v=.ptr n 0∧H'.f n=some (.row 9 (ringG {}))∧Fra (At n) H H'):=by
 refine fn_rule G.mixed G.ring_New rfl [n] (fun hcl=>?_)
 simp only [go_sem,hn,ht]
 refine ⟨?_,(Fra.mk1.s1).bmp⟩
 refine congrArg some (congrArg _ ?_)
 funext k
 unfold cs ringG
 by_cases h:k<9
 ·have:k=0∨k=1∨k=2∨k=3∨k=4∨k=5∨k=6∨k=7∨k=8:=by omega
  rcases this with rfl | rfl | rfl | rfl | rfl | rfl | rfl | rfl | rfl <;> rfl
 ·rw [if_neg (by omega),if_neg (by omega),List.getD_eq_getElem?_getD,List.getElem?_eq_none (by simp; omega)]; rfl
theorem histo_In_c (G:Good P F) {n:Nm} (ht:n.t≠0) {h:Histo} {H:AH} (hn:H.f n=some (.row 242 (histG h))) :
  ACalls P F.histo_In [.ptr n 0] H (fun v H'=>v=i64 h.inn∧Same H H'):=by
 refine fn_rule G.mixed G.histo_In rfl [] (fun hcl=>?_)
 simp only [go_sem,hn,histG_i]
 exact Same.mk1
theorem histo_Over_c (G:Good P F) {n:Nm} (ht:n.t≠0) {h:Histo} {H:AH} (hn:H.f n=some (.row 242 (histG h))) :
  ACalls P F.histo_Over [.ptr n 0] H (fun v H'=>v=i64 h.over∧Same H H'):=by
 refine fn_rule G.mixed G.histo_Over rfl [] (fun hcl=>?_)
 simp only [go_sem,hn,histG_o]
 exact Same.mk1
theorem wrapH {x:Int} (h0:0≤x) (h1:x<4294967296):IntKind.i64.wrap (x.tdiv 2)=x / 2:=by
 rw [Int.tdiv_eq_ediv_of_nonneg h0,wrap64 (by omega) (by omega)]
def halfTo (h:Histo) (i:Nat):Histo:={ bins:=fun j=>if j<i then h.bins j / 2 else h.bins j,inn:=sumN (fun j=>h.bins j / 2) i,over:=h.over }
theorem sumN_le {f g:Nat→Int} (h : ∀ i,f i≤g i) : ∀ n,sumN f n≤sumN g n
 | 0=>Int.le_refl _
 | n+1=>by have:=sumN_le h n; have:=h n; simp only [sumN]; omega
theorem sumN_mono {f:Nat→Int} (h : ∀ i,0≤f i) : ∀ {a b:Nat},a≤b→sumN f a≤sumN f b
 | a,0,hab=>by
  have:a=0:=by omega
  subst this; exact Int.le_refl _
 | a,b+1,hab=>by
  by_cases e:a=b+1
  ·subst e; exact Int.le_refl _
  ·have:=sumN_mono h (show a≤b by omega)
   have:=h b
   simp only [sumN]; omega
theorem sumN_upn {f:Nat→Int} {i:Nat} : ∀ {n:Nat},i<n→sumN (upn f i (f i+1)) n=sumN f n+1
 | 0,h=>by omega
 | n+1,h=>by
  by_cases e:i=n
  ·subst e
   have : ∀ m,m≤i→sumN (upn f i (f i+1)) m=sumN f m:=by
    intro m
    induction m with
    | zero=>intro _; rfl
    | succ m ih =>
     intro hm
     simp only [sumN]
     rw [ih (by omega)]
     have:upn f i (f i+1) m=f m:=by unfold upn; rw [if_neg (by omega)]
     rw [this]
   simp only [sumN]
   rw [this i (Nat.le_refl _)]
   have:upn f i (f i+1) i=f i+1:=by unfold upn; rw [if_pos rfl]
   rw [this]; omega
  ·simp only [sumN]
   rw [sumN_upn (show i<n by omega)]
   have:upn f i (f i+1) n=f n:=by unfold upn; rw [if_neg (by omega)]
   rw [this]; omega
theorem histo_halve_c (G:Good P F) {n:Nm} (ht:n.t≠0) {h:Histo} (hb : ∀ i,0≤h.bins i) (hs:sumN h.bins 240<100000) (ho:0≤h.over∧h.over<100000) {H:AH} (hn:H.f n=some (.row 242 (histG h))) :
  ACalls P F.histo_halve [.ptr n 0] H (fun _ H'=>H'.f n=some (.row 242 (histG h.halve))∧Fra (At n) H H'):=by
 refine fn_rule G.mixed G.histo_halve rfl [] (fun hcl=>?_)
 simp only [go_sem,hn,histG_ui]
 refine C_loop (fun k l H' => ∃ i:Nat,i+k=240∧H'.f n=some (.row 242 (histG (halfTo h i)))∧Fra (At n) H H'∧l=[(0,.ptr n 0),(6,i64 i)]) 240 ⟨0,rfl,by simp only [go_sem,halfTo]; rfl,Fra.mk1.s1,rfl⟩ ?_
 rintro k _ H1 ⟨i,hi,h1,hf1,rfl⟩ _ hcl1
 refine ⟨[],?_⟩
 simp only [go_sem]
 refine EI_i (fun c1=>?_) (fun c1=>?_)
 ·have c1:i<240:=by simp at c1; omega
  have c0:(0:Int)≤(i:Int):=by omega
  have c2:(i:Int)<240:=by omega
  have c3:i<242:=by omega
  have b0:(halfTo h i).bins i=h.bins i:=by unfold halfTo; simp
  have hbi:=hb i
  have hsi:h.bins i≤sumN h.bins (i+1):=by
   have:=sumN_nonneg hb i
   simp only [sumN]; omega
  have hsj:=sumN_mono hb (show i+1≤240 by omega)
  have hs2:sumN (fun j=>h.bins j / 2) i≤sumN h.bins i:=sumN_le (fun j=>by have:=hb j; omega) i
  have hs3:0≤sumN (fun j=>h.bins j / 2) i:=sumN_nonneg (fun j=>by have:=hb j; omega) i
  have hs4:sumN h.bins (i+1)=sumN h.bins i+h.bins i:=rfl
  have w1:=wrapH hbi (by omega)
  have u0:upn (halfTo h i).bins i (h.bins i / 2) i=h.bins i / 2:=by unfold upn; rw [if_pos rfl]
  have e1:(halfTo h i).inn=sumN (fun j=>h.bins j / 2) i:=rfl
  have w2:IntKind.i64.wrap (sumN (fun j=>h.bins j / 2) i+h.bins i / 2)=sumN (fun j=>h.bins j / 2) i+h.bins i / 2:=wrap64 (by omega) (by omega)
  have w3:=wrapS (i:=i) (by omega)
  simp only [go_sem,h1,c0,c2,c3,Nat.mul_one,Int.toNat_natCast,histG_b c1,b0,two0,w1,histG_ub c1,histG_i,u0,e1,w2,histG_ui,w3]
  refine ⟨k-1,_,rfl,by omega,i+1,by omega,?_,?_,rfl⟩
  ·refine congrArg some (congrArg _ ?_)
   funext j
   unfold histG
   by_cases hj:j<240
   ·simp only [if_pos hj]
    refine congrArg _ ?_
    show upn (halfTo h i).bins i (h.bins i / 2) j=(halfTo h (i+1)).bins j
    unfold upn halfTo
    by_cases e:j=i
    ·subst e; simp
    ·simp only [e,if_false]
     by_cases hji:j<i
     ·rw [if_pos hji,if_pos (by omega)]
     ·rw [if_neg hji,if_neg (by omega)]
   ·simp only [if_neg hj]; rfl
  ·exact hf1.mk'.s1
 ·have c1:i=240:=by simp at c1; omega
  have w1:=wrapH ho.1 (by omega)
  have e1:(halfTo h i).over=h.over:=rfl
  simp only [go_sem,h1,histG_o,e1,two0,w1,histG_uo]
  refine ⟨?_,hf1.mk'.s1⟩
  subst c1
  refine congrArg some (congrArg _ ?_)
  funext k
  unfold histG halfTo Histo.halve
  by_cases hk:k<240
  ·simp [hk]
  ·simp [hk]
theorem histo_Add_c (G:Good P F) {n:Nm} (ht:n.t≠0) {h:Histo} (hw:WHist h) {x:Int} {H:AH} (hn:H.f n=some (.row 242 (histG h))) :
  ACalls P F.histo_Add [.ptr n 0,i64 x] H (fun _ H'=>H'.f n=some (.row 242 (histG (h.add x)))∧Fra (At n) H H'):=by
 refine fn_rule G.mixed G.histo_Add rfl [] (fun hcl=>?_)
 have hi0:=hw.inn0
 have ho0:=hw.over
 have hal:=hw.all
 simp only [go_sem]
 refine EI_i (fun c1=>?_) (fun c1=>?_)
 ·have c1:x<0:=by simpa using c1
  simp only [go_sem]
  exact ⟨by rw [hn]; unfold Histo.add; rw [if_pos c1],Fra.mk1⟩
 have c1 : ¬ x<0:=by simpa using c1
 simp only [go_sem]
 refine EI_i (fun c2=>?_) (fun c2=>?_)
 ·have c2:x<240:=by simpa using c2
  have c0:0≤x:=by omega
  have c3:x.toNat<240:=by omega
  have c4:x.toNat<242:=by omega
  have hbx:=hw.b x.toNat
  have hbs:h.bins x.toNat≤h.inn:=by
   have h1:=sumN_mono hw.b (show x.toNat+1≤240 by omega)
   have h2:=sumN_nonneg hw.b x.toNat
   have h3:sumN h.bins (x.toNat+1)=sumN h.bins x.toNat+h.bins x.toNat:=rfl
   have h4:=hw.inn
   omega
  have u0:h.inn+1+h.over=h.inn+1+h.over:=rfl
  have w0:IntKind.i64.wrap (h.bins x.toNat+1)=h.bins x.toNat+1:=wrap64 (by omega) (by omega)
  have w1:IntKind.i64.wrap (h.inn+1)=h.inn+1:=wrap64 (by omega) (by omega)
  have w2:IntKind.i64.wrap (h.inn+1+h.over)=h.inn+1+h.over:=wrap64 (by omega) (by omega)
  simp only [go_sem,hn,c0,c2,c4,Nat.mul_one,histG_b c3,w0,histG_ub c3,histG_i,w1,histG_ui,histG_o,w2]
  refine EI_i (fun c5=>?_) (fun c5=>?_)
  ·have c5:h.inn+1+h.over ≥ 4096:=by simpa using c5
   have hsum:sumN (upn h.bins x.toNat (h.bins x.toNat+1)) 240=h.inn+1:=by
    rw [hw.inn]; exact sumN_upn c3
   simp only [go_sem]
   refine CA_s [] (histo_halve_c G ht (h:={ h with bins:=upn h.bins x.toNat (h.bins x.toNat+1),inn:=h.inn+1 }) (fun i=>by show 0≤upn h.bins x.toNat _ i; unfold upn; have:=hw.b i; split <;> omega) (by show sumN (upn h.bins x.toNat _) 240<100000; rw [hsum]; omega) ⟨ho0,by show h.over<100000; omega⟩ (by simp only [go_sem])) ?_
   rintro _ H1 ⟨h1,hf1⟩ _ _
   simp only [go_sem]
   refine ⟨?_,((Fra.mk1.s1).trans hf1).mk'⟩
   rw [h1]
   unfold Histo.add
   simp only [c1,c2,if_false,c5,if_true]
  ·have c5 : ¬ h.inn+1+h.over ≥ 4096:=by simpa using c5
   simp only [go_sem]
   refine ⟨?_,Fra.mk1.s1⟩
   unfold Histo.add
   simp only [c1,c2,if_false,c5,if_true]
 ·have c2 : ¬ x<240:=by simpa using c2
  have w1:IntKind.i64.wrap (h.over+1)=h.over+1:=wrap64 (by omega) (by omega)
  have w2:IntKind.i64.wrap (h.inn+(h.over+1))=h.inn+(h.over+1):=wrap64 (by omega) (by omega)
  simp only [go_sem,hn,histG_o,w1,histG_uo,histG_i,w2]
  refine EI_i (fun c3=>?_) (fun c3=>?_)
  ·have c3:h.inn+(h.over+1) ≥ 4096:=by simpa using c3
   simp only [go_sem]
   refine CA_s [] (histo_halve_c G ht (h:={ h with over:=h.over+1 }) hw.b (by have:=hw.inn; show sumN h.bins 240<100000; omega) ⟨by show 0≤h.over+1; omega,by show h.over+1<100000; omega⟩ (by simp only [go_sem])) ?_
   rintro _ H1 ⟨h1,hf1⟩ _ _
   simp only [go_sem]
   refine ⟨?_,((Fra.mk1.s1).trans hf1).mk'⟩
   rw [h1]
   unfold Histo.add
   simp only [c1,c2,if_false,c3,if_true]
  ·have c3 : ¬ h.inn+(h.over+1) ≥ 4096:=by simpa using c3
   simp only [go_sem]
   refine ⟨?_,Fra.mk1.s1⟩
   unfold Histo.add
   simp only [c1,c2,if_false,c3]
end Go.Ab

namespace Go.Ab
open Go Gh
variable {P : Program} {F : Nums}
def binL (h:Histo):List AV:=(List.range 240).map fun j=>i64 (h.bins j)
theorem binL_len {h:Histo}:(binL h).length=240:=by unfold binL; rw [List.length_map,List.length_range]
theorem binL_at {h:Histo} {i:Nat} (hi:i<240):(binL h).getD i .any=i64 (h.bins i):=by
 unfold binL; rw [List.getD_eq_getElem?_getD,List.getElem?_map,List.getElem?_range hi]; rfl
theorem hist_copyN {h:Histo} (n:Nat) (hn:n≤240):rdNO (some (.row 242 (histG h))) 0 n=some ((List.range n).map fun j=>i64 (h.bins j)):=by
 unfold rdNO
 have:0+n≤242:=by omega
 simp only [this,if_true]
 refine congrArg some (List.map_congr_left fun j hj=>?_)
 have:=List.mem_range.1 hj
 rw [Nat.zero_add,histG_b (by omega)]
theorem hist_copy {h:Histo}:rdNO (some (.row 242 (histG h))) 0 240=some (binL h):=hist_copyN 240 (by omega)
theorem sumN_sq {f:Nat→Int} (h : ∀ i,0≤f i) : ∀ n,0≤sumN (fun i=>f i*f i) n∧sumN (fun i=>f i*f i) n≤sumN f n*sumN f n
 | 0=>by simp [sumN]
 | n+1=>by
  have ih:=sumN_sq h n
  have h1:=h n
  have h2:=sumN_nonneg h n
  have h3:=Int.mul_nonneg h2 h1
  have h4:=Int.mul_nonneg h1 h1
  have e:(sumN f n+f n)*(sumN f n+f n)=sumN f n*sumN f n+f n*f n+2*(sumN f n*f n):=by
   rw [Int.add_mul,Int.mul_add,Int.mul_add,Int.mul_comm (f n) (sumN f n)]; omega
  simp only [sumN]
  rw [e]; omega
theorem histo_Spread_c (G:Good P F) {n:Nm} (ht:n.t≠0) {h:Histo} (hw:WHist h) {H:AH} (hn:H.f n=some (.row 242 (histG h))) :
  ACalls P F.histo_Spread [.ptr n 0] H (fun v H'=>v=.bool h.spread∧Same H H'):=by
 refine fn_rule G.mixed G.histo_Spread rfl [] (fun hcl=>?_)
 simp only [go_sem,hn,hist_copy]
 have hsq : ∀ i:Nat,i≤240→0≤sumN (fun j=>h.bins j*h.bins j) i∧sumN (fun j=>h.bins j*h.bins j) i≤4096*4096:=fun i hi=>by
  have h1:=sumN_sq hw.b i
  have h2:=sumN_mono hw.b hi
  have h3:=sumN_nonneg hw.b i
  have h4:=hw.inn
  have h5:=hw.all
  have h6:=hw.over
  have h7:sumN h.bins i*sumN h.bins i≤4096*4096:=Int.mul_le_mul (by omega) (by omega) h3 (by omega)
  omega
 refine C_loop (fun k l H' => ∃ i:Nat,i+k=240∧Same H H'∧l=[(0,.ptr n 0),(3,i64 (sumN (fun j=>h.bins j*h.bins j) i)),(9,.agg (binL h)),(10,i64 i)]) 240 ⟨0,rfl,Same.mk1,rfl⟩ ?_
 rintro k _ H1 ⟨i,hi,h1,rfl⟩ _ hcl1
 refine ⟨[],?_⟩
 have hn1:=h1.some (old_of ht) hn
 simp only [go_sem]
 refine EI_i (fun c1=>?_) (fun c1=>?_)
 ·have c1:i<240:=by simp at c1; omega
  have c0:(0:Int)≤(i:Int):=by omega
  have c2:(i:Int)<240:=by omega
  have hbi:=hw.b i
  have hbs:h.bins i<4096:=by
   have h1:=sumN_mono hw.b (show i+1≤240 by omega)
   have h2:=sumN_nonneg hw.b i
   have h3:sumN h.bins (i+1)=sumN h.bins i+h.bins i:=rfl
   have h4:=hw.inn
   have h5:=hw.all
   have h6:=hw.over
   omega
  have q1:0≤h.bins i*h.bins i:=Int.mul_nonneg hbi hbi
  have q2:h.bins i*h.bins i≤4096*4096:=Int.mul_le_mul (by omega) (by omega) hbi (by omega)
  have q3:=hsq i (by omega)
  have w1:IntKind.i64.wrap (h.bins i*h.bins i)=h.bins i*h.bins i:=wrap64 (by omega) (by omega)
  have w2:IntKind.i64.wrap (sumN (fun j=>h.bins j*h.bins j) i+h.bins i*h.bins i)=sumN (fun j=>h.bins j*h.bins j) (i+1):=by
   rw [wrap64 (by omega) (by omega)]; rfl
  have w3:=wrapS (i:=i) (by omega)
  simp only [go_sem,c0,c2,binL_len,Int.toNat_natCast,binL_at c1,w1,w2,w3]
  exact ⟨k-1,_,rfl,by omega,i+1,by omega,h1.mk',rfl⟩
 ·have c1:i=240:=by simp at c1; omega
  subst c1
  have q3:=hsq 240 (by omega)
  have hin:=hw.inn0
  have h4:=hw.inn
  have h5:=hw.all
  have h6:=hw.over
  have w1:IntKind.i64.wrap (240*sumN (fun j=>h.bins j*h.bins j) 240)=240*sumN (fun j=>h.bins j*h.bins j) 240:=wrap64 (by omega) (by omega)
  have w2:IntKind.i64.wrap (5*h.inn)=5*h.inn:=wrap64 (by omega) (by omega)
  have q4:0≤5*h.inn*h.inn:=Int.mul_nonneg (by omega) hin
  have q5:5*h.inn*h.inn≤5*4096*4096:=Int.mul_le_mul (by omega) (by omega) hin (by omega)
  have w3:IntKind.i64.wrap (5*h.inn*h.inn)=5*h.inn*h.inn:=wrap64 (by omega) (by omega)
  simp only [go_sem,hn1,histG_i]
  refine EI_i (fun d1=>?_) (fun d1=>?_)
  ·have d1':h.inn>0:=by simpa using d1
   simp only [go_sem,hn1,histG_i,w1,w2,w3,d1]
   refine ⟨?_,h1.mk'⟩
   unfold Histo.spread
   simp only [d1',true_and]
  ·have d1' : ¬ h.inn>0:=by simpa using d1
   simp only [go_sem,d1]
   refine ⟨?_,h1.mk'⟩
   unfold Histo.spread
   simp only [d1',false_and,decide_false]
theorem cutFrom_ge (h:Histo) (p:Int) : ∀ (k i:Nat) (sum:Int),i+k=240→cutFrom h p k i sum=if k=0 then 239 else if sum+h.bins i>0∧(sum+h.bins i)*100 ≥ p*h.inn then (i:Int) else cutFrom h p (k-1) (i+1) (sum+h.bins i)
 | 0,i,sum,_=>rfl
 | k+1,i,sum,_=>by
  simp only [Nat.add_one_ne_zero,if_false,Nat.add_sub_cancel]
  rfl
theorem histo_Cut_c (G:Good P F) {n:Nm} (ht:n.t≠0) {h:Histo} (hw:WHist h) {p:Int} (hp:0≤p∧p≤100) {H:AH} (hn:H.f n=some (.row 242 (histG h))) :
  ACalls P F.histo_Cut [.ptr n 0,i64 p] H (fun v H'=>(∃ b,v=.tup [i64 (h.cut p),.bool b])∧Same H H'):=by
 refine fn_rule G.mixed G.histo_Cut rfl [] (fun hcl=>?_)
 have hin:=hw.inn0
 have h4:=hw.inn
 have h5:=hw.all
 have h6:=hw.over
 have m1:min p 100=p:=by omega
 have m2:max 0 p=p:=by omega
 simp only [go_sem,hn,histG_i]
 refine EI_i (fun c1=>?_) (fun c1=>?_)
 ·have c1:h.inn=0:=by simpa using c1
  simp only [go_sem]
  exact ⟨⟨false,by unfold Histo.cut; rw [if_pos c1]⟩,Same.mk1⟩
 have c1:h.inn≠0:=by simpa using c1
 simp only [go_sem,hn,hist_copy,m1,m2]
 refine C_loop (fun k l H' => ∃ i:Nat,i+k=240∧cutFrom h p k i (sumN h.bins i)=h.cut p∧Same H H'∧l=[(0,.ptr n 0),(1,i64 p),(6,i64 (sumN h.bins i)),(20,.agg (binL h)),(21,i64 i)]) 240 ⟨0,rfl,by unfold Histo.cut; rw [if_neg c1]; rfl,Same.mk1,rfl⟩ ?_
 rintro k _ H1 ⟨i,hi,hc,h1,rfl⟩ _ hcl1
 refine ⟨[],?_⟩
 have hn1:=h1.some (old_of ht) hn
 rw [cutFrom_ge h p k i _ hi] at hc
 simp only [go_sem]
 refine EI_i (fun c2=>?_) (fun c2=>?_)
 ·have c2:i<240:=by simp at c2; omega
  have c0:(0:Int)≤(i:Int):=by omega
  have c3:(i:Int)<240:=by omega
  have g1:=sumN_mono hw.b (show i+1≤240 by omega)
  have g2:=sumN_nonneg hw.b i
  have g3:sumN h.bins (i+1)=sumN h.bins i+h.bins i:=rfl
  have g4:=hw.b i
  have w1:IntKind.i64.wrap (sumN h.bins i+h.bins i)=sumN h.bins i+h.bins i:=wrap64 (by omega) (by omega)
  have w2:IntKind.i64.wrap ((sumN h.bins i+h.bins i)*100)=(sumN h.bins i+h.bins i)*100:=wrap64 (by omega) (by omega)
  have q4:0≤p*h.inn:=Int.mul_nonneg hp.1 hin
  have q5:p*h.inn≤100*4096:=Int.mul_le_mul hp.2 (by omega) hin (by omega)
  have w3:IntKind.i64.wrap (p*h.inn)=p*h.inn:=wrap64 (by omega) (by omega)
  have w4:=wrapS (i:=i) (by omega)
  rw [if_neg (by omega)] at hc
  simp only [go_sem,c0,c3,binL_len,Int.toNat_natCast,binL_at c2,w1]
  refine EI_i (fun d1=>?_) (fun d1=>?_)
  ·have d1':sumN h.bins i+h.bins i>0:=by simpa using d1
   simp only [go_sem,d1,hn1,histG_i,w2,w3]
   refine EI_i (fun d2=>?_) (fun d2=>?_)
   ·have d2':(sumN h.bins i+h.bins i)*100 ≥ p*h.inn:=by simpa using d2
    simp only [go_sem]
    rw [if_pos ⟨d1',d2'⟩] at hc
    exact ⟨⟨true,by rw [hc]⟩,h1.mk'⟩
   ·have d2' : ¬ (sumN h.bins i+h.bins i)*100 ≥ p*h.inn:=by simpa using d2
    simp only [go_sem,w4]
    rw [if_neg (fun e=>d2' e.2)] at hc
    exact ⟨k-1,_,rfl,by omega,i+1,by omega,hc,h1.mk',rfl⟩
  ·have d1' : ¬ sumN h.bins i+h.bins i>0:=by simpa using d1
   simp only [go_sem,d1,w4]
   rw [if_neg (fun e=>d1' e.1)] at hc
   exact ⟨k-1,_,rfl,by omega,i+1,by omega,hc,h1.mk',rfl⟩
 ·have c2:i=240:=by simp at c2; omega
  simp only [go_sem]
  rw [if_pos (by omega)] at hc
  exact ⟨⟨true,by rw [← hc]⟩,h1.mk'⟩
end Go.Ab

namespace Go.Ab
open Go Gh
variable {P : Program} {F : Nums}
theorem ringG_l {r:Ring} {k:Nat} (hk:k<8):ringG r k=i64 (r.list k):=by unfold ringG; rw [if_pos hk]
theorem ringG_n {r:Ring}:ringG r 8=i64 r.n:=rfl
theorem ringG_ul {r:Ring} {k:Nat} (hk:k<8) {v:Int}:upd (ringG r) k (i64 v)=ringG { r with list:=upn r.list k v }:=by
 funext j
 simp only [upd,ringG,upn]
 by_cases e:j=k
 ·subst e; simp [hk]
 ·simp [e]
theorem ringG_un {r:Ring} {v:Int}:upd (ringG r) 8 (i64 v)=ringG { r with n:=v }:=by
 funext j
 simp only [upd,ringG]
 by_cases e:j=8
 ·subst e; simp
 ·simp [e]
theorem cs_app {a b:List AV} {c:Nat} (hc:c=a.length):(fun i=>if i<c then cs a i else b.getD (i-c) .any)=cs (a++b):=by
 funext i
 unfold cs
 rw [getD_app,hc]
theorem remR {x:Int} (h0:0≤x):x.tmod 8=x % 8:=Int.tmod_eq_emod_of_nonneg h0
theorem ring_Push_c (G:Good P F) {n:Nm} (ht:n.t≠0) {r:Ring} (hw:WRing r) {x:Int} {H:AH} (hn:H.f n=some (.row 9 (ringG r))) :
  ACalls P F.ring_Push [.ptr n 0,i64 x] H (fun _ H'=>H'.f n=some (.row 9 (ringG (r.push x)))∧Fra (At n) H H'):=by
 refine fn_rule G.mixed G.ring_Push rfl [] (fun hcl=>?_)
 have h0:=hw.n
 have w0:=remR h0.1
 have w1:IntKind.i64.wrap (r.n+1)=r.n+1:=wrap64 (by omega) (by omega)
 have z8:((8:Int)=0)=False:=by simp
 have c0:0≤r.n % 8:=by omega
 have c1:r.n % 8<8:=by omega
 have c2:(r.n % 8).toNat<8:=by omega
 have c3:(r.n % 8).toNat<9:=by omega
 simp only [go_sem,hn,ringG_n,z8,w0,c0,c1,c3,Nat.mul_one,ringG_ul c2,w1,ringG_un]
 refine EI_i (fun d=>?_) (fun d=>?_)
 ·have d:r.n+1=16:=by simpa using d
  simp only [go_sem,ringG_un]
  exact ⟨by unfold Ring.push; rw [if_pos d],Fra.mk1.s1⟩
 ·have d : ¬ r.n+1=16:=by simpa using d
  simp only [go_sem]
  exact ⟨by unfold Ring.push; rw [if_neg d],Fra.mk1.s1⟩
theorem ring_Len_c (G:Good P F) {n:Nm} {r:Ring} {H:AH} (hn:H.f n=some (.row 9 (ringG r))) :
  ACalls P F.ring_Len [.ptr n 0] H (fun v H'=>v=i64 r.len∧Same H H'):=by
 refine fn_rule G.mixed G.ring_Len rfl [] (fun hcl=>?_)
 simp only [go_sem,hn,ringG_n]
 exact ⟨rfl,Same.mk1⟩
def IntsAt (v:AV) (l:List Int) (H:AH):Prop :=
 (l=[]∧v=.nils)∨(l≠[] ∧ ∃ n:Nm,n.t=0∧n.i<H.k∧v=.slice n 1 0 l.length∧H.f n=some (.row l.length (cs (l.map i64))))
def Ring.some (r:Ring) (j:Nat):List Int:=(List.range j).map fun (j:Nat)=>r.list (((r.n-r.len+(j:Int)) % 8).toNat)
theorem Ring.some_len {r:Ring} {j:Nat}:(Ring.some r j).length=j:=by unfold Ring.some; rw [List.length_map,List.length_range]
theorem Ring.some_succ {r:Ring} {j:Nat}:Ring.some r (j+1)=Ring.some r j++[r.list (((r.n-r.len+(j:Int)) % 8).toNat)]:=by
 unfold Ring.some; rw [List.range_succ,List.map_append]; rfl
theorem ring_List_c (G:Good P F) {n:Nm} (ht:n.t≠0) {r:Ring} (hw:WRing r) {H:AH} (hn:H.f n=some (.row 9 (ringG r))) :
  ACalls P F.ring_List [.ptr n 0] H (fun v H'=>IntsAt v r.all H'∧Same H H'):=by
 refine fn_rule G.mixed G.ring_List rfl [] (fun hcl=>?_)
 have h0:=hw.n
 have hlen:r.len=min r.n 8:=rfl
 simp only [go_sem,hn,ringG_n]
 refine CA_s [] (ring_Len_c G (r:=r) (by exact hn)) ?_
 rintro _ H1 ⟨rfl,h1⟩ _ _
 have h1:Same H H1:=h1.of_mk
 have hn1:=h1.some (old_of ht) hn
 have w0:IntKind.i64.wrap (r.n-r.len)=r.n-r.len:=wrap64 (by omega) (by omega)
 simp only [go_sem,hn1,ringG_n,w0,holdsOk_cons,gd_none,pureV,forall_const,fr_lkp]
 refine C_loop (fun k l H' => ∃ (j:Nat) (v:AV) (z:Int),z=r.n-r.len+j∧(j:Int)+k=r.len∧IntsAt v (Ring.some r j) H'∧(∀ m e o b,v=.slice m e o b→H.k≤m.i)∧Same H H'∧l=[(0,.ptr n 0),(3,v),(4,i64 z)]) r.len.toNat ⟨0,.nils,r.n-r.len,by omega,by omega,.inl ⟨rfl,rfl⟩,(fun m e o b h=>by cases h),h1.mk',rfl⟩ ?_
 rintro k _ H2 ⟨j,v,_,rfl,hj,hv,hvk,h2,rfl⟩ _ hcl2
 refine ⟨[],?_⟩
 have hn2:=h2.some (old_of ht) hn
 simp only [go_sem,hn2,ringG_n]
 refine EI_i (fun c1=>?_) (fun c1=>?_)
 ·have c1:r.n-r.len+j<r.n:=by simpa using c1
  have w1:=remR (x:=r.n-r.len+j) (by omega)
  have z8:((8:Int)=0)=False:=by simp
  have d0:0≤(r.n-r.len+(j:Int)) % 8:=by omega
  have d1:(r.n-r.len+(j:Int)) % 8<8:=by omega
  have d2:((r.n-r.len+(j:Int)) % 8).toNat<8:=by omega
  have d3:((r.n-r.len+(j:Int)) % 8).toNat<9:=by omega
  have w2:IntKind.i64.wrap (r.n-r.len+(j:Int)+1)=r.n-r.len+((j+1:Nat):Int):=by rw [wrap64 (by omega) (by omega)]; omega
  have p32:(2 ^ 32<1)=False:=by simp
  have hk2:H.k≤H2.k:=h2.k
  have n1:(⟨0,H2.k,0⟩:Nm)≠⟨0,H2.k,1⟩:=tmp_ne (by decide)
  have hne:Ring.some r (j+1)≠[]:=by rw [Ring.some_succ]; simp
  rcases hv with ⟨e1,rfl⟩ | ⟨e1,m,m1,m2,rfl,m3⟩
  ·have hj0:j=0:=by have:=congrArg List.length e1; rw [Ring.some_len] at this; exact this
   simp only [go_sem,hn2,z8,w1,d0,d1,d3,Nat.mul_one,ringG_l d2,p32,w2,or_self,Nat.reduceDiv]
   refine ⟨k-1,_,rfl,by omega,j+1,_,_,rfl,by omega,.inr ⟨hne,⟨0,H2.k,1⟩,rfl,?_,?_,?_⟩,?_,?_,rfl⟩
   ·show H2.k<H2.k+1; omega
   ·rw [Ring.some_len,hj0]
   ·rw [Ring.some_succ,e1]; simp only [go_sem]
   ·intro m e o b h; cases h; exact hk2
   ·exact ((h2.mk'.set (nold hk2)).set (nold hk2)).bmp
  ·have hmk:H.k≤m.i:=hvk _ _ _ _ rfl
   obtain ⟨mt,mi,mj⟩:=m
   simp only at m1 m2 hmk
   subst m1
   have n2:(⟨0,mi,mj⟩:Nm)≠⟨0,H2.k,0⟩:=tmp_nei (by omega)
   have n3:(⟨0,mi,mj⟩:Nm)≠⟨0,H2.k,1⟩:=tmp_nei (by omega)
   have l32:(Ring.some r j).length≤2 ^ 32:=by rw [Ring.some_len]; omega
   simp only [go_sem,hn2,z8,w1,d0,d1,d3,Nat.mul_one,ringG_l d2,p32,w2,or_self,Nat.reduceDiv,n1,n1.symm,n2,n3,n2.symm,n3.symm,m3,l32]
   refine ⟨k-1,_,rfl,by omega,j+1,_,_,rfl,by omega,.inr ⟨hne,⟨0,H2.k,1⟩,rfl,?_,?_,?_⟩,?_,?_,rfl⟩
   ·show H2.k<H2.k+1; omega
   ·rw [Ring.some_len,Ring.some_len]
   ·rw [Ring.some_succ,List.map_append,List.length_append]; simp only [go_sem]; exact congrArg some (congrArg _ (cs_app (List.length_map ..).symm))
   ·intro m e o b h; cases h; exact hk2
   ·exact (((h2.mk'.set (nold hk2)).set (nold hmk)).set (nold hk2)).bmp
 ·have c1 : ¬ r.n-r.len+j<r.n:=by simpa using c1
  simp only [go_sem]
  have:j=r.len.toNat:=by omega
  subst this
  exact ⟨hv.imp id fun ⟨a,m,b,c,d⟩=>⟨a,m,b,c,d⟩,h2.mk'⟩
end Go.Ab

