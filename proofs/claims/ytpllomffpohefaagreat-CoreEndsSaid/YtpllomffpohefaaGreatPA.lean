/- Part 1 of the proof: what the program's functions do, shown of them one by one, over memory by names. -/
import Derived.Orders
import Derived.Deep.LoopGhost
import Derived.Laws.Sem
import Derived.Laws.World
import Derived.Laws.Cells
import Derived.Laws.StructEq
import Derived.LaidEql
import Derived.Laws.Small
import Derived.KernelRfl
import Derived.Laws.MakeOwn
import Derived.OrdersIn
set_option linter.unusedVariables false
set_option linter.unusedSimpArgs false
namespace Go.Ab
open Go
structure Nm where
 t:Nat
 i:Int:=0
 j:Int:=0
 deriving DecidableEq,Inhabited
inductive AV where
 | any
 | bool (b:Bool)
 | int (k:IntKind) (n:Int)
 | str (s:ByteArray)
 | ptr (n:Nm) (off:Nat)
 | nilp
 | slice (n:Nm) (e off len:Nat)
 | nils
 | map (n:Nm)
 | nilm
 | fn (f:FuncId) (caps:List AV)
 | nilf
 | agg (cs:List AV)
 | tup (cs:List AV)
 | iface (t:TypeId) (v:AV)
 | nili
 deriving Inhabited
inductive AO where
 | row (n:Nat) (g:Nat→AV)
 | fix (n:Nat) (g:Nat→AV) (o:Obj)
 | mp (r:Nat) (m:List Int→Option AV)
 | mpb (r:Nat) (m:List Int→Option AV) (k:List Int) (b:Int)
 | mpi (r:Nat) (m:List Int→Option AV) (it:Nm) (seen:List (List Int)) (c:Nat)
 | itr (m:Nm)
 | itr0
 | dead
structure AH where
 f:Nm→Option AO
 k:Int
 sup:List Nm
abbrev Fr:=Nat→AV
def lkp:List (Nat × AV)→Nat→AV
 | [],_=>.any
 | (a,v)::r,s=>bif a==s then v else lkp r s
def fr (l:List (Nat × AV)):Fr:=lkp l
def rs (L:List Nat) (t:Fr):Fr:=fr (L.map fun s=>(s,t s))
def put (d:Option Nat) (v:AV) (t:Fr):Fr:=match d with
 | none=>t
 | some d=>fun s=>bif s==d then v else t s
def upd (g:Nat→AV) (i:Nat) (v:AV):Nat→AV:=fun j=>bif j==i then v else g j
def cs (l:List AV):Nat→AV:=fun i=>l.getD i .any
def updN (g:Nat→AV) (off:Nat):List AV→Nat→AV
 | []=>g
 | v::r=>updN (upd g off v) (off+1) r
def AH.set (H:AH) (n:Nm) (o:AO):AH:={ H with f:=fun m=>if m=n then some o else H.f m }
def AH.rd (H:AH) (n:Nm) (off:Nat):Option AV :=
 match H.f n with
 | some (.row c g)=>if off<c then some (g off) else none
 | some (.fix c g _)=>if off<c then some (g off) else none
 | _=>none
def AH.rdN (H:AH) (n:Nm) (off k:Nat):Option (List AV) :=
 match H.f n with
 | some (.row c g)=>if off+k≤c then some ((List.range k).map fun j=>g (off+j)) else none
 | some (.fix c g _)=>if off+k≤c then some ((List.range k).map fun j=>g (off+j)) else none
 | _=>none
inductive X where
 | s (t:Nat)
 | c (v:AV)
def ev (t:Fr):X→AV
 | .s n=>t n
 | .c v=>v
def evs (t:Fr) (xs:List X):List AV:=xs.map (ev t)
def AV.cells:AV→List AV
 | .agg l=>l
 | v=>[v]
def AV.scalar:AV→Bool
 | .agg _ | .tup _ | .any=>false
 | _=>true
def AH.mpAt (H:AH) (r:Nat) (n:Nm):Option (List Int→Option AV):=match H.f n with
 | some (.mp r' m)=>if r'=r then some m else none
 | some (.mpi r' m _ _ _)=>if r'=r then some m else none
 | _=>none
def eqs:List Bool→List AV→List AV→Option Bool
 | [],[],[]=>some true
 | false::ks,.int k a::l,.int k' b::r=>if k=k' then match eqs ks l r with
  | some y=>some (a==b&&y)
  | none=>none
  else none
 | true::ks,.bool a::l,.bool b::r=>match eqs ks l r with
  | some y=>some (a==b&&y)
  | none=>none
 | _,_,_=>none
def AH.cellsAt (H:AH) (n:Nm):Bool:=match H.f n with
 | some (.row _ _)=>true
 | _=>false
inductive EC where
 | b | p | s | m
 | a (ks:List Bool)
 deriving DecidableEq
def eqv (H:AH):EC→AV→AV→Option Bool
 | .b,.bool a,.bool b=>some (a==b)
 | .p,.nilp,.nilp=>some true
 | .p,.nilp,.ptr _ _=>some false
 | .p,.ptr _ _,.nilp=>some false
 | .p,.ptr n o,.ptr m u=>if H.cellsAt n&&H.cellsAt m then some (decide (n=m)&&o==u) else none
 | .s,.nils,.nils=>some true
 | .s,.nils,.slice _ _ _ _=>some false
 | .s,.slice _ _ _ _,.nils=>some false
 | .m,.nilm,.nilm=>some true
 | .m,.nilm,.map _=>some false
 | .m,.map _,.nilm=>some false
 | .a ks,.agg l,.agg r=>eqs ks l r
 | _,_,_=>none
def keyOf:Nat→AV→Option (List Int)
 | 1,.int .i64 i=>some [i]
 | 2,.agg [.int .i64 a,.int .i64 b]=>some [a,b]
 | _,_=>none
def keyVal:List Int→AV
 | [i]=>.int .i64 i
 | [a,b]=>.agg [.int .i64 a,.int .i64 b]
 | _=>.any
def mset (m:List Int→Option AV) (k:List Int) (v:Option AV):List Int→Option AV:=fun x=>if x=k then v else m x
def arith (op:BinOp) (k:IntKind) (x y:Int):Option AV :=
 match op with
 | .add=>some (.int k (k.wrap (x+y)))
 | .sub=>some (.int k (k.wrap (x-y)))
 | .mul=>some (.int k (k.wrap (x*y)))
 | .quo=>if y=0 then none else some (.int k (k.wrap (x.tdiv y)))
 | .rem=>if y=0 then none else some (.int k (x.tmod y))
 | .and=>some (.int k (k.wrap (BitVec.ofInt k.bits x &&& BitVec.ofInt k.bits y).toNat))
 | .or=>some (.int k (k.wrap (BitVec.ofInt k.bits x ||| BitVec.ofInt k.bits y).toNat))
 | .xor=>some (.int k (k.wrap (BitVec.ofInt k.bits x ^^^ BitVec.ofInt k.bits y).toNat))
 | .eql=>some (.bool (x==y))
 | .neq=>some (.bool (x != y))
 | .lss=>some (.bool (x<y))
 | .leq=>some (.bool (x≤y))
 | .gtr=>some (.bool (x>y))
 | .geq=>some (.bool (x ≥ y))
 | _=>none
def shft (op:BinOp) (k:IntKind) (x y:Int):Option AV :=
 if y<0 then none else
 match op with
 | .shl=>some (.int k (k.wrap (x*2 ^ (min y.toNat k.bits))))
 | .shr=>some (.int k (x.fdiv (2 ^ (min y.toNat k.bits))))
 | _=>none
def binInt (op:BinOp) (k:IntKind) (a:Int) (b:Int):Option AV :=
 match op with
 | .shl | .shr=>shft op k a b
 | op=>arith op k a b
def binop (op:BinOp) (x y:AV):Option AV :=
 match x,y with
 | .int k a,.int k' b=>if k=k' then binInt op k a b else match op with
  | .shl | .shr=>shft op k a b
  | _=>none
 | .str a,.str b=>match op with
  | .eql=>some (.bool (a.toList==b.toList))
  | .neq=>some (.bool !(a.toList==b.toList))
  | .add=>if ((a.size+b.size:Nat):Int)>IntKind.i64.max then none else some (.str (a++b))
  | _=>none
 | _,_=>none
inductive AI where
 | mov (x:X)
 | pick (c a b:X)
 | ld (x:X)
 | ldn (x:X) (n:Nat)
 | st (a v:X)
 | stn (a v:X) (n:Nat)
 | chk (x:X)
 | bin (op:BinOp) (x y:X)
 | eq (neg:Bool) (e:EC) (x y:X)
 | not (x:X)
 | neg (x:X)
 | conv (k:IntKind) (x:X)
 | fa (x:X) (off:Nat)
 | ix (x i:X) (esz:Nat)
 | ixa (x i:X) (len esz:Nat)
 | idx (x i:X) (len:Nat)
 | idxn (x i:X) (len e:Nat)
 | fld (x:X) (off:Nat)
 | fldn (x:X) (off n:Nat)
 | ext (x:X) (i:Nat)
 | bld (zero:List AV) (parts:List (Nat × Nat × X))
 | alc (q:Nat) (zero:List AV)
 | box (q:Nat) (x:X)
 | bsl (q:Nat) (zero:List AV) (parts:List (Nat × Nat × X)) (len e:Nat)
 | mkm (q r:Nat)
 | mkf (f:FuncId) (caps:List X)
 | look (r:Nat) (m k:X) (zero:AV) (ok:Bool)
 | mupd (r:Nat) (m k v:X)
 | ment (r:Nat) (m k:X) (zero:AV)
 | est (m s v:X)
 | call (f:X) (args:List X)
 | app (q:Nat) (s x:X) (esz:Nat)
 | del (r:Nat) (m k:X)
 | len (x:X)
 | slen (x:X)
 | lent (n:Nat)
 | mn (xs:List X)
 | mx (xs:List X)
 | slc (x:X) (lo hi:Option X) (esz:Nat)
 | sslc (x:X) (lo hi:Option X)
 | rng (q:Nat) (x:X)
 | nxt (x:X)
 | ent (x:X)
 | strix (x i:X)
 | aload (x:X)
 | acas (x o n:X)
 | add64 (x y c:X)
 | clr (x:X)
 | pan
structure Ins where
 n:Nat
 d:Option Nat
 g:Option (Nat × Bool)
 hold:List (Option (Nat × Bool) × Nat × AI)
 a:AI
 bm:Nat:=0
def fillP (t:Fr):List AV→List (Nat × Nat × X)→Option (List AV)
 | z,[]=>some z
 | z,(off,n,x)::r =>
  if (ev t x).cells.length=n∧off+n≤z.length∧(ev t x).cells.all AV.scalar then fillP t (z.take off++(ev t x).cells++z.drop (off+n)) r else none
def foldI (f:Int→Int→Int):AV→List AV→Option AV
 | v,[]=>some v
 | .int k a,.int _ b::r=>foldI f (.int k (f a b)) r
 | _,_=>none
def bnd (x:Option AV) (dflt:Int):Option Int:=match x with
 | none=>some dflt
 | some (.int _ i)=>some i
 | _=>none
def slcV (v:AV) (lo hi:Option AV) (esz:Nat):Option AV :=
 match v with
 | .slice n e off len=>match bnd lo 0,bnd hi len with
  | some l,some h=>if e=esz∧0≤l∧l≤h∧h≤len then some (.slice n e (off+l.toNat*e) (h.toNat-l.toNat)) else none
  | _,_=>none
 | .nils=>match bnd lo 0,bnd hi 0 with
  | some l,some h=>if l=0∧h=0 then some .nils else none
  | _,_=>none
 | _=>none
def sslcV (v:AV) (lo hi:Option AV):Option AV :=
 match v with
 | .str s=>match bnd lo 0,bnd hi s.size with
  | some l,some h=>if 0≤l∧l≤h∧h≤s.size then some (.str (s.extract l.toNat h.toNat)) else none
  | _,_=>none
 | _=>none
def pureV (H:AH) (t:Fr):AI→Option AV
 | .mov x=>some (ev t x)
 | .pick c a b=>match ev t c with
  | .bool true=>some (ev t a)
  | .bool false=>some (ev t b)
  | _=>none
 | .ld x=>match ev t x with
  | .ptr n off=>H.rd n off
  | _=>none
 | .ldn x k=>match ev t x with
  | .ptr n off=>(H.rdN n off k).map AV.agg
  | _=>none
 | .chk x=>match ev t x with
  | .ptr n off=>some (.ptr n off)
  | .fn f c=>some (.fn f c)
  | _=>none
 | .bin op x y=>binop op (ev t x) (ev t y)
 | .eq neg e x y=>match eqv H e (ev t x) (ev t y) with
  | some b=>some (.bool (if neg then !b else b))
  | none=>none
 | .not x=>match ev t x with
  | .bool b=>some (.bool !b)
  | _=>none
 | .neg x=>match ev t x with
  | .int k n=>some (.int k (k.wrap (0-n)))
  | _=>none
 | .conv k x=>match ev t x with
  | .int _ n=>some (.int k (k.wrap n))
  | _=>none
 | .fa x off=>match ev t x with
  | .ptr n o=>some (.ptr n (o+off))
  | _=>none
 | .ix x i esz=>match ev t x,ev t i with
  | .slice n _ off len,.int _ j=>if 0≤j∧j<len then some (.ptr n (off+j.toNat*esz)) else none
  | _,_=>none
 | .ixa x i len esz=>match ev t x,ev t i with
  | .ptr n off,.int _ j=>if 0≤j∧j<len then some (.ptr n (off+j.toNat*esz)) else none
  | _,_=>none
 | .idx x i len=>match ev t x,ev t i with
  | .agg l,.int _ j=>if 0≤j∧j<len∧l.length=len then some (l.getD j.toNat .any) else none
  | _,_=>none
 | .idxn x i len e=>match ev t x,ev t i with
  | .agg l,.int _ j=>if 0≤j∧j<len∧l.length=len*e then some (.agg ((l.drop (j.toNat*e)).take e)) else none
  | _,_=>none
 | .fld x off=>match ev t x with
  | .agg l=>l[off]?
  | _=>none
 | .fldn x off n=>match ev t x with
  | .agg l=>if off+n≤l.length then some (.agg ((l.drop off).take n)) else none
  | _=>none
 | .ext x i=>match ev t x with
  | .tup l=>l[i]?
  | _=>none
 | .bld zero parts=>(fillP t zero parts).map AV.agg
 | .mkf f caps=>some (.fn f (evs t caps))
 | .look r m k zero ok=>match ev t m,keyOf r (ev t k) with
  | .map n,some key=>match H.mpAt r n with
   | some mp=>match mp key with
    | some v=>some (if ok then .tup [v,.bool true] else v)
    | none=>some (if ok then .tup [zero,.bool false] else zero)
   | _=>none
  | .nilm,some _=>some (if ok then .tup [zero,.bool false] else zero)
  | _,_=>none
 | .len x=>match ev t x with
  | .slice _ _ _ len=>some (.int .i64 len)
  | .nils=>some (.int .i64 0)
  | _=>none
 | .slen x=>match ev t x with
  | .str s=>some (.int .i64 s.size)
  | _=>none
 | .lent n=>some (.int .i64 n)
 | .mn xs=>match evs t xs with
  | .int k a::r=>foldI (fun x y=>if y<x then y else x) (.int k a) r
  | _=>none
 | .mx xs=>match evs t xs with
  | .int k a::r=>foldI (fun x y=>if y>x then y else x) (.int k a) r
  | _=>none
 | .slc x lo hi esz=>slcV (ev t x) (lo.map (ev t)) (hi.map (ev t)) esz
 | .sslc x lo hi=>sslcV (ev t x) (lo.map (ev t)) (hi.map (ev t))
 | .strix x i=>match ev t x,ev t i with
  | .str s,.int _ j=>if 0≤j∧j<s.size then some (.int .u8 ((s.data.getD j.toNat 0).toNat)) else none
  | _,_=>none
 | .ent x=>match ev t x with
  | .ptr it 0=>match H.f it with
   | some (.itr n)=>match H.f n with
    | some (.mpi _ mp it' (key::_) _)=>if it=it' then match mp key with
     | some v=>some (.tup [keyVal key,v])
     | none=>none
     else none
    | _=>none
   | _=>none
  | _=>none
 | .aload x=>match ev t x with
  | .ptr n off=>match H.rd n off with
   | some (.int .i64 v)=>some (.int .i64 v)
   | _=>none
  | _=>none
 | .add64 x y c=>match ev t x,ev t y,ev t c with
  | .int _ a,.int _ b,.int _ d=>if 0≤a∧0≤b∧0≤d∧d≤1 then some (.tup [.int .u64 ((a+b+d) % 2 ^ 64),.int .u64 ((a+b+d) / 2 ^ 64)]) else none
  | _,_,_=>none
 | _=>none
def AI.q:AI→Option Nat
 | .alc q _ | .box q _ | .bsl q _ _ _ _ | .mkm q _ | .app q _ _ _ | .rng q _=>some q
 | _=>none
def appd (H:AH) (esz:Nat):AV→Option (List AV)
 | .slice n e off len=>if e=esz then H.rdN n off (len*esz) else none
 | .nils=>some []
 | _=>none
def effV (nm:Nat→Nm) (H:AH) (t:Fr):AI→Option (AV × AH)
 | .st a v=>match ev t a with
  | .ptr n off=>match H.f n with
   | some (.row c g)=>if off<c∧(ev t v).scalar then some (.any,H.set n (.row c (upd g off (ev t v)))) else none
   | _=>none
  | _=>none
 | .stn a v k=>match ev t a,ev t v with
  | .ptr n off,.agg l=>match H.f n with
   | some (.row c g)=>if off+k≤c∧l.length=k∧l.all AV.scalar then some (.any,H.set n (.row c (updN g off l))) else none
   | _=>none
  | _,_=>none
 | .alc q zero=>some (.ptr (nm q) 0,H.set (nm q) (.row zero.length (cs zero)))
 | .box q x=>if (ev t x).cells.all AV.scalar then some (.ptr (nm q) 0,H.set (nm q) (.row (ev t x).cells.length (cs (ev t x).cells))) else none
 | .bsl q zero parts len e=>match fillP t zero parts with
  | some l=>if l.length=len*e then some (.slice (nm q) e 0 len,H.set (nm q) (.row l.length (cs l))) else none
  | none=>none
 | .mkm q r=>some (.map (nm q),H.set (nm q) (.mp r fun _=>none))
 | .mupd r m k v=>match ev t m,keyOf r (ev t k) with
  | .map n,some key=>match H.f n with
   | some (.mp r' mp)=>if r'=r then some (.any,H.set n (.mp r (mset mp key (some (ev t v))))) else none
   | some (.mpi r' mp it seen c)=>if r'=r then match mp key with
    | some _=>some (.any,H.set n (.mpi r (mset mp key (some (ev t v))) it seen c))
    | none=>none
    else none
   | _=>none
  | _,_=>none
 | .est m s v=>match ev t m,ev t s with
  | .map n,.int _ b=>match H.f n with
   | some (.mpb r mp key b')=>if b=b' then some (.any,H.set n (.mp r (mset mp key (some (ev t v))))) else none
   | _=>none
  | _,_=>none
 | .del r m k=>match ev t m,keyOf r (ev t k) with
  | .map n,some key=>match H.f n with
   | some (.mp r' mp)=>if r'=r then some (.any,H.set n (.mp r (mset mp key none))) else none
   | some (.mpi r' mp it seen c)=>if r'=r then some (.any,H.set n (.mpi r (mset mp key none) it seen c)) else none
   | _=>none
  | .nilm,some _=>some (.any,H)
  | _,_=>none
 | .app q s x esz=>match appd H esz (ev t x) with
  | some l=>if 2 ^ 32<l.length∨l.all AV.scalar=false then none else match ev t s with
   | .nils=>if l.length=0 then some (.nils,H) else some (.slice (nm q) esz 0 (l.length / esz),H.set (nm q) (.row l.length (cs l)))
   | .slice n e 0 len=>match H.f n with
    | some (.row c g) =>
     if e=esz∧c=len*esz∧len≤2 ^ 32 then
      if l.length=0 then some (.slice n e 0 len,H)
      else some (.slice (nm q) e 0 (len+l.length / esz),(H.set n .dead).set (nm q) (.row (c+l.length) fun i=>if i<c then g i else l.getD (i-c) .any))
     else none
    | _=>none
   | _=>none
  | none=>none
 | .acas x o n=>match ev t x,ev t o,ev t n with
  | .ptr m off,.int _ a,.int k b=>match H.f m with
   | some (.row c g)=>if off<c then match g off with
     | .int .i64 v=>if v=a then some (.bool true,H.set m (.row c (upd g off (.int k b)))) else some (.bool false,H)
     | _=>none
    else none
   | _=>none
  | _,_,_=>none
 | .clr x=>match ev t x with
  | .nils=>some (.any,H)
  | .slice n e off len=>if len=0 then some (.any,H) else match H.f n with
   | some (.row c g)=>if e=1∧off+len≤c then some (.any,H.set n (.row c (updN g off (List.replicate len (.int .i64 0))))) else none
   | _=>none
  | _=>none
 | _=>none
end Go.Ab

namespace Go.Ab
open Go
structure Loc where
 b:Nat
 sz:Nat
mutual
def VRel (ρ:Nm→Loc) (D:Nm→Prop):AV→Value→Prop
 | .any,_=>True
 | .bool b,v=>v=.bool b
 | .int k n,v=>v=.int k n
 | .str s,v=>v=.string s
 | .ptr n off,v=>D n∧v=.pointer (some ⟨(ρ n).b,off,none⟩)
 | .nilp,v=>v=.pointer none
 | .slice n e off len,v=>D n ∧ ∃ a cap,v=.slice (some a) len cap∧len≤cap∧a.spot=none ∧
   ((a=⟨(ρ n).b,off,none⟩∧(off=0→cap*e≤(ρ n).sz))∨(len=0∧cap=0))
 | .nils,v=>v=.slice none 0 0
 | .map n,v=>D n∧v=.map (some (ρ n).b)
 | .nilm,v=>v=.map none
 | .fn f caps,v => ∃ c:Array Value,v=.func (.func f) #[] c∧VRels ρ D caps c.toList
 | .nilf,v=>v=.nilFunc
 | .agg l,v => ∃ c:Array Value,v=.agg c∧VRels ρ D l c.toList
 | .tup l,v => ∃ c:Array Value,v=.tuple c∧VRels ρ D l c.toList
 | .iface t x,v => ∃ y,v=.iface t y∧VRel ρ D x y
 | .nili,v=>v=.nilIface
def VRels (ρ:Nm→Loc) (D:Nm→Prop):List AV→List Value→Prop
 | [],[]=>True
 | a::l,v::r=>VRel ρ D a v∧VRels ρ D l r
 | _,_=>False
end
def AH.D (H:AH) (n:Nm):Prop:=H.f n≠none∨(n.t=0∧n.i<H.k)
def rkey:List Int→Option Value
 | [i]=>some (.int .i64 i)
 | [a,b]=>some (.agg #[.int .i64 a,.int .i64 b])
 | _=>none
structure MRel (ρ:Nm→Loc) (D:Nm→Prop) (r:Nat) (m:List Int→Option AV) (es:Array MapEntry) (clock:Nat):Prop where
 fwd : ∀ e∈es.toList,∃ key v,key.length=r∧rkey key=some e.key∧m key=some v∧VRel ρ D v e.val
 bwd : ∀ key v,m key=some v → ∃ e∈es.toList,rkey key=some e.key
 inj:es.toList.Pairwise fun e e'=>e.key≠e'.key
 born : ∀ e∈es.toList,e.born<clock
 binj:es.toList.Pairwise fun e e'=>e.born≠e'.born
def rowAt (ρ:Nm→Loc) (D:Nm→Prop) (w:World) (n:Nm) (c:Nat) (g:Nat→AV):Prop :=
 ∃ cells T,w.heap[(ρ n).b]? = some (.cells cells T (0,0))∧cells.size=(ρ n).sz∧c≤cells.size ∧
  ∀ i,i<c → ∃ v,cells[i]? = some v∧VRel ρ D (g i) v
def fixAt (ρ:Nm→Loc) (D:Nm→Prop) (w:World) (n:Nm) (c:Nat) (g:Nat→AV) (o:Obj):Prop :=
 w.heap[(ρ n).b]? = some o ∧ ∃ cells T fr,o=.cells cells T fr∧c≤cells.size∧cells.size=(ρ n).sz ∧
  ∀ i,i<c → ∃ v,cells[i]? = some v∧VRel ρ D (g i) v
def objAt (ρ:Nm→Loc) (H:AH) (w:World) (n:Nm):AO→Prop
 | .row c g=>rowAt ρ H.D w n c g
 | .fix c g o=>fixAt ρ H.D w n c g o
 | .mp r m => ∃ es clock,w.heap[(ρ n).b]? = some (.map es clock)∧MRel ρ H.D r m es clock
 | .mpb r m key b => ∃ es clock,w.heap[(ρ n).b]? = some (.map es clock)∧MRel ρ H.D r m es clock ∧
   ∃ e∈es.toList,rkey key=some e.key∧(e.born:Int)=b
 | .mpi r m it seen c => ∃ es clock sb,w.heap[(ρ n).b]? = some (.map es clock)∧MRel ρ H.D r m es clock ∧
   H.f it=some (.itr n)∧w.heap[(ρ it).b]? = some (.mapIter (some (ρ n).b) clock sb clock) ∧
   (∀ e∈es.toList,∀ key,rkey key=some e.key→(sb.contains e.born=true↔key∈seen)) ∧
   (es.toList.filter fun e => !sb.contains e.born).length≤c ∧
   (∀ key rest,seen=key::rest → ∀ e∈es.toList,rkey key=some e.key→sb.back? = some e.born)∧(sb = #[]→seen=[])
 | .itr m => ∃ since sb st,w.heap[(ρ n).b]? = some (.mapIter (some (ρ m).b) since sb st)
 | .itr0 => ∃ since sb st,w.heap[(ρ n).b]? = some (.mapIter none since sb st)
 | .dead=>True
def AO.live:AO→Bool
 | .dead=>false
 | _=>true
structure HRel (ρ:Nm→Loc) (H:AH) (w:World):Prop where
 obj : ∀ n o,H.f n=some o→objAt ρ H w n o
 lt : ∀ n o,H.f n=some o→o.live=true→(ρ n).b<w.heap.size
 inj : ∀ n m o o',H.f n=some o→H.f m=some o'→o.live=true→o'.live=true→(ρ n).b=(ρ m).b→n=m
 tmp : ∀ n,n.t=0→H.k<n.i→H.f n=none
 io : ∀ n k,H.f n=some (.itr k)→H.D k
def TRel (ρ:Nm→Loc) (D:Nm→Prop) (t:Fr) (a:Act):Prop := ∀ s,VRel ρ D (t s) (a.tmps.getD s undef)
structure Ext (ρ ρ':Nm→Loc) (H H':AH) (w w':World):Prop where
 dom : ∀ n,H.D n→H'.D n∧ρ' n=ρ n
 size:w.heap.size≤w'.heap.size
 frame : ∀ b,b<w.heap.size→(∀ n o,H.f n=some o→o.live=true→(ρ n).b≠b)→w'.heap[b]? = w.heap[b]?
 back : ∀ n o,H'.f n=some o→o.live=true→(ρ' n).b<w.heap.size → ∃ m o',H.f m=some o'∧o'.live=true∧(ρ m).b=(ρ' n).b
 k:H.k≤H'.k
 os:w'.os=w.os∧w'.output=w.output
theorem Ext.refl (ρ:Nm→Loc) (H:AH) (w:World):Ext ρ ρ H H w w :=
 ⟨fun _ h=>⟨h,rfl⟩,Nat.le_refl _,fun _ _ _=>rfl,fun n o h hl _=>⟨n,o,h,hl,rfl⟩,Int.le_refl _,rfl,rfl⟩
theorem Ext.trans {ρ ρ' ρ'':Nm→Loc} {H H' H'':AH} {w w' w'':World} (h:Ext ρ ρ' H H' w w') (h':Ext ρ' ρ'' H' H'' w' w'') :
  Ext ρ ρ'' H H'' w w'' where
 dom n hn:=⟨(h'.dom n (h.dom n hn).1).1,by rw [(h'.dom n (h.dom n hn).1).2,(h.dom n hn).2]⟩
 size:=Nat.le_trans h.size h'.size
 frame b hb hl:=by
  rw [← h.frame b hb hl]
  refine h'.frame b (Nat.lt_of_lt_of_le hb h.size) ?_
  intro n o hn ho heq
  obtain ⟨m,o',hm,hm',he⟩:=h.back n o hn ho (by rw [heq]; exact hb)
  exact hl m o' hm hm' (by rw [he,heq])
 back n o hn ho hb:=by
  obtain ⟨m,o',hm,hm',he⟩:=h'.back n o hn ho (Nat.lt_of_lt_of_le hb h.size)
  obtain ⟨m',o'',hm'',hl,he'⟩:=h.back m o' hm hm' (by rw [he]; exact hb)
  exact ⟨m',o'',hm'',hl,by rw [he',he]⟩
 k:=Int.le_trans h.k h'.k
 os:=⟨h'.os.1.trans h.os.1,h'.os.2.trans h.os.2⟩
mutual
theorem VRel.mono {ρ ρ':Nm→Loc} {D D':Nm→Prop} (h : ∀ n,D n→D' n∧ρ' n=ρ n) : ∀ (a:AV) (v:Value),VRel ρ D a v→VRel ρ' D' a v
 | .any,_,hv=>by simp [VRel]
 | .bool _,_,hv=>by simpa [VRel] using hv
 | .int _ _,_,hv=>by simpa [VRel] using hv
 | .str _,_,hv=>by simpa [VRel] using hv
 | .ptr n off,_,hv=>by
  simp only [VRel] at *
  exact ⟨(h n hv.1).1,by rw [(h n hv.1).2]; exact hv.2⟩
 | .nilp,_,hv=>by simpa [VRel] using hv
 | .slice n e off len,_,hv=>by
  simp only [VRel] at *
  exact ⟨(h n hv.1).1,by rw [(h n hv.1).2]; exact hv.2⟩
 | .nils,_,hv=>by simpa [VRel] using hv
 | .map n,_,hv=>by
  simp only [VRel] at *
  exact ⟨(h n hv.1).1,by rw [(h n hv.1).2]; exact hv.2⟩
 | .nilm,_,hv=>by simpa [VRel] using hv
 | .fn f caps,_,hv=>by
  simp only [VRel] at *
  obtain ⟨c,hc,hr⟩:=hv
  exact ⟨c,hc,VRels.mono h _ _ hr⟩
 | .nilf,_,hv=>by simpa [VRel] using hv
 | .agg l,_,hv=>by
  simp only [VRel] at *
  obtain ⟨c,hc,hr⟩:=hv
  exact ⟨c,hc,VRels.mono h _ _ hr⟩
 | .tup l,_,hv=>by
  simp only [VRel] at *
  obtain ⟨c,hc,hr⟩:=hv
  exact ⟨c,hc,VRels.mono h _ _ hr⟩
 | .iface t x,_,hv=>by
  simp only [VRel] at *
  obtain ⟨y,hy,hr⟩:=hv
  exact ⟨y,hy,VRel.mono h _ _ hr⟩
 | .nili,_,hv=>by simpa [VRel] using hv
theorem VRels.mono {ρ ρ':Nm→Loc} {D D':Nm→Prop} (h : ∀ n,D n→D' n∧ρ' n=ρ n) : ∀ (l:List AV) (r:List Value),VRels ρ D l r→VRels ρ' D' l r
 | [],[],_=>by simp [VRels]
 | [],_::_,hv=>by simp [VRels] at hv
 | _::_,[],hv=>by simp [VRels] at hv
 | a::l,v::r,hv=>by
  simp only [VRels] at *
  exact ⟨VRel.mono h _ _ hv.1,VRels.mono h _ _ hv.2⟩
end
theorem VRels.length {ρ:Nm→Loc} {D:Nm→Prop} : ∀ {l:List AV} {r:List Value},VRels ρ D l r→l.length=r.length
 | [],[],_=>rfl
 | [],_::_,hv=>by simp [VRels] at hv
 | _::_,[],hv=>by simp [VRels] at hv
 | a::l,v::r,hv=>by
  simp only [VRels] at hv
  simp [VRels.length hv.2]
theorem VRels.get {ρ:Nm→Loc} {D:Nm→Prop} : ∀ {l:List AV} {r:List Value},VRels ρ D l r → ∀ (i:Nat) (a:AV),l[i]? = some a → ∃ v,r[i]? = some v∧VRel ρ D a v
 | [],[],_,i,a,h=>by simp at h
 | [],_::_,hv,_,_,_=>by simp [VRels] at hv
 | _::_,[],hv,_,_,_=>by simp [VRels] at hv
 | a::l,v::r,hv,i,x,h=>by
  simp only [VRels] at hv
  cases i with
  | zero=>simp at h; subst h; exact ⟨v,by simp,hv.1⟩
  | succ i=>simpa using VRels.get hv.2 i x (by simpa using h)
theorem VRels.of_get {ρ:Nm→Loc} {D:Nm→Prop} : ∀ {l:List AV} {r:List Value},l.length=r.length→(∀ (i:Nat) (a:AV) (v:Value),l[i]? = some a→r[i]? = some v→VRel ρ D a v)→VRels ρ D l r
 | [],[],_,_=>by simp [VRels]
 | [],_::_,h,_=>by simp at h
 | _::_,[],h,_=>by simp at h
 | a::l,v::r,h,hh=>by
  simp only [VRels]
  exact ⟨hh 0 a v (by simp) (by simp),VRels.of_get (by simpa using h) fun i x y hx hy=>hh (i+1) x y (by simpa using hx) (by simpa using hy)⟩
theorem VRels.append {ρ:Nm→Loc} {D:Nm→Prop} : ∀ {l:List AV} {r:List Value} {l':List AV} {r':List Value},VRels ρ D l r→VRels ρ D l' r'→VRels ρ D (l++l') (r++r')
 | [],[],_,_,_,h=>by simpa using h
 | [],_::_,_,_,hv,_=>by simp [VRels] at hv
 | _::_,[],_,_,hv,_=>by simp [VRels] at hv
 | a::l,v::r,_,_,hv,h=>by
  simp only [VRels,List.cons_append] at *
  exact ⟨hv.1,VRels.append hv.2 h⟩
theorem VRels.take {ρ:Nm→Loc} {D:Nm→Prop} {l:List AV} {r:List Value} (h:VRels ρ D l r) (n:Nat):VRels ρ D (l.take n) (r.take n) :=
 VRels.of_get (by simp [h.length]) fun i a v ha hv=>by
  rw [List.getElem?_take] at ha hv
  split at ha
  ·rename_i hi
   rw [if_pos hi] at hv
   obtain ⟨v',hv',hr⟩:=h.get i a ha
   rw [hv] at hv'; cases hv'; exact hr
  ·cases ha
theorem VRels.drop {ρ:Nm→Loc} {D:Nm→Prop} {l:List AV} {r:List Value} (h:VRels ρ D l r) (n:Nat):VRels ρ D (l.drop n) (r.drop n) :=
 VRels.of_get (by simp [h.length]) fun i a v ha hv=>by
  rw [List.getElem?_drop] at ha hv
  obtain ⟨v',hv',hr⟩:=h.get _ a ha
  rw [hv] at hv'; cases hv'; exact hr
theorem VRel.cells {ρ:Nm→Loc} {D:Nm→Prop} {a:AV} {v:Value} (h:VRel ρ D a v) (hs:a.cells.all AV.scalar=true):VRels ρ D a.cells v.cells.toList:=by
 cases a <;> simp [AV.cells,AV.scalar] at hs <;>
  first
  | (simp only [VRel] at h; obtain ⟨c,rfl,hr⟩:=h; simpa [AV.cells,Value.cells] using hr)
  | (simp only [VRel] at h; subst h; simp [AV.cells,Value.cells,VRels,VRel])
  | (have h':=h; simp only [VRel] at h; obtain ⟨hd,rfl⟩:=h; simp [AV.cells,Value.cells,VRels]; exact h')
  | (have h':=h; simp only [VRel] at h; obtain ⟨hd,a',cap,rfl,_⟩:=h; simp [AV.cells,Value.cells,VRels]; exact h')
  | (have h':=h; simp only [VRel] at h; obtain ⟨c,rfl,_⟩:=h; simp [AV.cells,Value.cells,VRels]; exact h')
theorem VRel.scalar1 {ρ:Nm→Loc} {D:Nm→Prop} {a:AV} {v:Value} (h:VRel ρ D a v) (hs:a.scalar=true):v.cells = #[v]∧v.oneCell'=true:=by
 cases a <;> simp [AV.scalar] at hs <;>
  first
  | (simp only [VRel] at h; subst h; simp [Value.cells,Value.oneCell'])
  | (simp only [VRel] at h; obtain ⟨hd,rfl⟩:=h; simp [Value.cells,Value.oneCell'])
  | (simp only [VRel] at h; obtain ⟨hd,a',cap,rfl,_⟩:=h; simp [Value.cells,Value.oneCell'])
  | (simp only [VRel] at h; obtain ⟨c,rfl,_⟩:=h; simp [Value.cells,Value.oneCell'])
end Go.Ab

namespace Go.Ab
open Go
def constOk:AV→Value→Bool
 | .bool a,.bool b=>a==b
 | .int k a,.int k' b=>decide (k=k')&&a==b
 | .str a,.string b=>a.data==b.data
 | .nilp,.pointer none=>true
 | .nils,.slice none 0 0=>true
 | .nilm,.map none=>true
 | .nilf,.nilFunc=>true
 | .nili,.nilIface=>true
 | _,_=>false
def constsOk:List AV→List Value→Bool
 | [],[]=>true
 | a::l,v::r=>constOk a v&&constsOk l r
 | _,_=>false
def zeroOk (a:AV) (v:Value):Bool:=match a,v with
 | .agg l,.agg c=>constsOk l c.toList
 | a,v=>constOk a v
def chkX:X→Operand→Bool
 | .s n,.tmp m=>n==m
 | .c v,.const u=>constOk v u
 | .c (.fn f []),.func g=>f==g
 | _,_=>false
def chkXs:List X→List Operand→Bool
 | [],[]=>true
 | x::l,y::r=>chkX x y&&chkXs l r
 | _,_=>false
def chkXo:Option X→Option Operand→Bool
 | none,none=>true
 | some x,some y=>chkX x y
 | _,_=>false
def chkParts (place:Nat→Option (Nat × Nat)):List (Nat × Nat × X)→List (Nat × Operand)→Bool
 | [],[]=>true
 | (off,n,x)::l,(i,y)::r=>place i==some (off,n)&&chkX x y&&chkParts place l r
 | _,_=>false
def plainT (P:Program) (T:TypeId):Bool:=match P.underlying T with
 | some (.struct _) | some (.array _ _)=>false
 | some _=>true
 | none=>false
def aggT (P:Program) (T:TypeId):Bool:=match P.underlying T with
 | some (.struct _) | some (.array _ _)=>true
 | _=>false
def sizeT (P:Program) (T:TypeId) (n:Nat):Bool:=match P.info? T with
 | some i=>i.size==n
 | none=>false
def zeroT (P:Program) (T:TypeId) (l:List AV):Bool:=match P.info? T with
 | some i=>match i.zero with
  | some v=>constsOk l v.cells.toList
  | none=>false
 | none=>false
def zero1T (P:Program) (T:TypeId) (a:AV):Bool:=match P.info? T with
 | some i=>match i.zero with
  | some v=>zeroOk a v
  | none=>false
 | none=>false
def fieldT (P:Program) (T:TypeId) (f off:Nat):Option TypeId:=match P.underlying T with
 | some (.struct fs)=>match fs[f]? with
  | some x=>if x.offset=off then some x.type else none
  | none=>none
 | _=>none
def flatT (P:Program):Nat→List Bool→List Field→Bool
 | _,[],[]=>true
 | i, k :: ks, f :: r => f.offset == i && f.name != "_" && (match k, P.underlying f.type with | false, some (.int _) => true | true, some .bool => true | _, _ => false) && flatT P (i + 1) ks r
 | _,_,_=>false
def ecT (P:Program) (T:TypeId):EC→Bool
 | .b=>match P.underlying T with | some .bool=>true | _=>false
 | .p=>match P.underlying T with | some (.pointer e) => !sizeT P e 0&&(P.info? e).isSome | _=>false
 | .s=>match P.underlying T with | some (.slice _)=>true | _=>false
 | .m=>match P.underlying T with | some (.map _ _)=>true | _=>false
 | .a ks=>match P.underlying T with | some (.struct fs)=>flatT P 0 ks fs.toList && !P.stoodInHeld T && !P.eqGuardType P.depth T | _=>false
def keyT (P:Program) (T:TypeId) (r:Nat):Bool:=match P.underlying T with
 | some (.int .i64)=>r==1
 | some (.struct fs)=>r==2&&flatT P 0 [false,false] fs.toList && !P.stoodInHeld T
 | _=>false
def mapT (P:Program) (T:TypeId) (r:Nat):Option (TypeId × TypeId):=match P.underlying T with
 | some (.map k e)=>if keyT P k r then some (k,e) else none
 | _=>none
def sliceT (P:Program) (T:TypeId) (e:Nat):Bool:=match P.underlying T with
 | some (.slice t)=>sizeT P t e&&e != 0
 | _=>false
def chkPure (P:Program) (op:Op) (i:AI):Bool:=match i,op with
 | .mov x,.move y | .mov x,.assign y=>chkX x y
 | .pick c a b,.pick c' a' b'=>chkX c c'&&chkX a a'&&chkX b b'
 | .ld x,.load T y=>plainT P T&&chkX x y
 | .ldn x n,.load T y=>aggT P T&&sizeT P T n&&chkX x y
 | .chk x,.nilCheck y=>chkX x y
 | .bin op x y,.binOp op' _ x' y' _=>decide (op=op')&&chkX x x'&&chkX y y'
 | .eq neg e x y,.binOp op' T x' y' _=>(match op' with | .eql => !neg | .neq=>neg | _=>false)&&ecT P T e&&chkX x x'&&chkX y y'
 | .not x,.unOp .not _ y=>chkX x y
 | .neg x,.unOp .neg _ y=>chkX x y
 | .conv k x,.convert s d y=>(P.underlying s).isSome&&(match P.underlying d with | some (.int k')=>decide (k=k') | _=>false)&&chkX x y
 | .fa x off,.fieldAddr T y f=>(match fieldT P T f off with | some t=>(P.info? t).isSome && !sizeT P t 0 | none=>false)&&chkX x y
 | .ix x i e,.indexAddr T y j=>sliceT P T e&&chkX x y&&chkX i j
 | .ixa x i len e,.indexAddr T y j=>(match P.underlying T with | some (.array n t)=>n==len&&sizeT P t e | _=>false)&&chkX x y&&chkX i j
 | .idx x i len,.index T y j=>(match P.underlying T with | some (.array n t)=>n==len&&sizeT P t 1&&plainT P t | _=>false)&&chkX x y&&chkX i j
 | .idxn x i len e,.index T y j=>(match P.underlying T with | some (.array n t)=>n==len&&sizeT P t e&&aggT P t | _=>false)&&chkX x y&&chkX i j
 | .strix x i,.index T y j=>(match P.underlying T with | some .string=>true | _=>false)&&chkX x y&&chkX i j
 | .fld x off,.field T y f=>(match fieldT P T f off with | some t=>plainT P t | none=>false)&&chkX x y
 | .fldn x off n,.field T y f=>(match fieldT P T f off with | some t=>aggT P t&&sizeT P t n | none=>false)&&chkX x y
 | .ext x i,.extract y j=>chkX x y&&i==j
 | .bld zero parts,.build T ps=>zeroT P T zero&&aggT P T&&(match P.underlying T with
   | some (.struct fs)=>chkParts (fun i=>(fs[i]?).bind fun f=>(P.info? f.type).map fun x=>(f.offset,x.size)) parts ps.toList&&fs.toList.all fun f=>(P.info? f.type).isSome
   | some (.array _ e)=>match P.info? e with | some x=>chkParts (fun i=>some (i*x.size,x.size)) parts ps.toList | none=>false
   | _=>false)
 | .mkf f caps,.makeFunc (.func g) fs cs=>f==g&&fs.isEmpty&&chkXs caps cs.toList
 | .look r m k zero ok,.lookup T y j ok'=>(match mapT P T r with | some (_,e)=>zero1T P e zero | none=>false)&&chkX m y&&chkX k j&&ok==ok'
 | .len x,.call { callee:=.builtin .len,args,argTypes }=>(match argTypes[0]?,args[0]? with
   | some T,some y=>chkX x y&&args.size==1&&(match P.underlying T with | some (.slice _)=>true | _=>false)
   | _,_=>false)
 | .slen x,.call { callee:=.builtin .len,args,argTypes }=>(match argTypes[0]?,args[0]? with
   | some T,some y=>chkX x y&&args.size==1&&(match P.underlying T with | some .string=>true | _=>false)
   | _,_=>false)
 | .lent n,.call { callee:=.builtin .len,args,argTypes }=>(match argTypes[0]?,args[0]? with
   | some T,some _=>(match P.underlying T with | some (.array m _)=>m==n | _=>false)
   | _,_=>false)
 | .mn xs,.call { callee:=.builtin .min,args,.. }=>chkXs xs args.toList
 | .mx xs,.call { callee:=.builtin .max,args,.. }=>chkXs xs args.toList
 | .slc x lo hi e,.slice T y l h none=>sliceT P T e&&chkX x y&&chkXo lo l&&chkXo hi h
 | .sslc x lo hi,.slice T y l h none=>(match P.underlying T with | some .string=>true | _=>false)&&chkX x y&&chkXo lo l&&chkXo hi h
 | .ent x,.entry y=>chkX x y
 | .aload x, .call { callee := .value (.func f), args, .. } => (match P.funcs[f]? with | some fn => fn.name == "sync/atomic.LoadInt64" && fn.origin == "" && fn.body.isNone | none => false) && chkXs [x] args.toList
 | .add64 x y c, .call { callee := .value (.func f), args, .. } => (match P.funcs[f]? with | some fn => fn.name == "math/bits.Add64" && fn.origin == "" && fn.body.isNone | none => false) && chkXs [x, y, c] args.toList
 | _,_=>false
section
variable {ρ : Nm → Loc} {D : Nm → Prop}
theorem constOk_rel {a:AV} {v:Value} (h:constOk a v=true):VRel ρ D a v:=by
 cases a <;> cases v <;> simp [constOk] at h
 case bool.bool=>simp [VRel,h]
 case int.int=>simp [VRel,h]
 case str.string a b=>simp only [VRel]; congr 1; cases a; cases b; simp at h; subst h; rfl
 case nilp.pointer a=>cases a <;> simp [constOk] at h; simp [VRel]
 case nils.slice a n c=>cases a <;> cases n <;> cases c <;> simp [constOk] at h; simp [VRel]
 case nilm.map a=>cases a <;> simp [constOk] at h; simp [VRel]
 all_goals simp [VRel]
theorem constsOk_rel : ∀ {l:List AV} {r:List Value},constsOk l r=true→VRels ρ D l r
 | [],[],_=>by simp [VRels]
 | [],_::_,h=>by simp [constsOk] at h
 | _::_,[],h=>by simp [constsOk] at h
 | a::l,v::r,h=>by
  simp only [constsOk,Bool.and_eq_true] at h
  simp only [VRels]
  exact ⟨constOk_rel h.1,constsOk_rel h.2⟩
theorem zeroOk_rel {a:AV} {v:Value} (h:zeroOk a v=true):VRel ρ D a v:=by
 unfold zeroOk at h
 split at h
 ·simp only [VRel]; exact ⟨_,rfl,constsOk_rel h⟩
 ·exact constOk_rel h
theorem chkX_rel {t:Fr} {a:Act} (ht:TRel ρ D t a) {x:X} {y:Operand} (h:chkX x y=true):VRel ρ D (ev t x) (a.eval y):=by
 cases x with
 | s n =>
  cases y <;> simp [chkX] at h
  subst h; exact ht n
 | c v =>
  cases y with
  | const u=>simp only [chkX] at h; exact constOk_rel h
  | func g =>
   cases v <;> simp [chkX] at h
   rename_i f caps
   cases caps <;> simp [chkX] at h
   subst h
   simp [ev,Act.eval,VRel,VRels]
  | tmp m=>simp [chkX] at h
  | global g =>
   cases v <;> simp [chkX] at h
theorem chkXs_rel {t:Fr} {a:Act} (ht:TRel ρ D t a) : ∀ {l:List X} {r:List Operand},chkXs l r=true→VRels ρ D (evs t l) (r.map a.eval)
 | [],[],_=>by simp [evs,VRels]
 | [],_::_,h=>by simp [chkXs] at h
 | _::_,[],h=>by simp [chkXs] at h
 | x::l,y::r,h=>by
  simp only [chkXs,Bool.and_eq_true] at h
  have:=chkXs_rel ht h.2
  simp only [evs,List.map_cons,VRels] at *
  exact ⟨chkX_rel ht h.1,this⟩
end
section
variable {P : Program}
theorem plainT_run {T:TypeId} (h:plainT P T=true) (w:World):(isAgg T).run P w=.ok false w:=by
 unfold plainT at h
 unfold isAgg underlying
 cases hu:P.underlying T with
 | none=>simp [hu] at h
 | some d=>cases d <;> simp [hu] at h <;> simp [hu]
theorem aggT_run {T:TypeId} (h:aggT P T=true) (w:World):(isAgg T).run P w=.ok true w:=by
 unfold aggT at h
 unfold isAgg underlying
 cases hu:P.underlying T with
 | none=>simp [hu] at h
 | some d=>cases d <;> simp [hu] at h <;> simp [hu]
theorem sizeT_run {T n:Nat} (h:sizeT P T n=true) (w:World):(sizeOf T).run P w=.ok n w:=by
 unfold sizeT at h
 unfold sizeOf typeInfo
 cases hu:P.info? T with
 | none=>simp [hu] at h
 | some d=>simp [hu] at h; simp [hu,h]
end
end Go.Ab

namespace Go.Ab
open Go
section
variable {P : Program} {ρ : Nm → Loc} {H : AH} {w : World} {t : Fr} {a : Act}
theorem chkXo_rel {D:Nm→Prop} (ht:TRel ρ D t a) {x:Option X} {y:Option Operand} (h:chkXo x y=true) :
  (x=none∧y=none) ∨ ∃ x' y',x=some x'∧y=some y'∧VRel ρ D (ev t x') (a.eval y'):=by
 cases x <;> cases y <;> simp [chkXo] at h
 ·exact .inl ⟨rfl,rfl⟩
 ·exact .inr ⟨_,_,rfl,rfl,chkX_rel ht h⟩
theorem rd_cell (hw:HRel ρ H w) {n:Nm} {off:Nat} {v:AV} (h:H.rd n off=some v) :
  ∃ u,w.cell? ⟨(ρ n).b,off,none⟩=some u∧VRel ρ H.D v u:=by
 unfold AH.rd at h
 cases hf:H.f n with
 | none=>simp [hf] at h
 | some o =>
  have ho:=hw.obj n o hf
  cases o <;> simp [hf] at h
  case row c g =>
   obtain ⟨hlt,rfl⟩:=h
   obtain ⟨cells,T,hb,hs,hc,hg⟩:=ho
   obtain ⟨u,hu,hr⟩:=hg off hlt
   exact ⟨u,by simp [World.cell?,hb,hu],hr⟩
  case fix c g o =>
   obtain ⟨hlt,rfl⟩:=h
   obtain ⟨hb,cells,T,fr,rfl,hc,hs,hg⟩:=ho
   obtain ⟨u,hu,hr⟩:=hg off hlt
   exact ⟨u,by simp [World.cell?,hb,hu],hr⟩
theorem rdN_cells (hw:HRel ρ H w) {n:Nm} {off k:Nat} {l:List AV} (h:H.rdN n off k=some l) :
  ∃ c:List Value,c.length=k∧VRels ρ H.D l c ∧ ∀ j u,c[j]? = some u→w.cell? ⟨(ρ n).b,off+j,none⟩=some u:=by
 have key : ∀ (g:Nat→AV),(∀ j,j<k → ∃ u,w.cell? ⟨(ρ n).b,off+j,none⟩=some u∧VRel ρ H.D (g (off+j)) u) →
   ∃ c:List Value,c.length=k∧VRels ρ H.D ((List.range k).map fun j=>g (off+j)) c ∧ ∀ j u,c[j]? = some u→w.cell? ⟨(ρ n).b,off+j,none⟩=some u:=by
  intro g hg
  have : ∀ m,m≤k → ∃ c:List Value,c.length=m∧VRels ρ H.D ((List.range m).map fun j=>g (off+j)) c ∧ ∀ j u,c[j]? = some u→w.cell? ⟨(ρ n).b,off+j,none⟩=some u:=by
   intro m
   induction m with
   | zero=>intro _; exact ⟨[],rfl,by simp [VRels],by simp⟩
   | succ m ih =>
    intro hm
    obtain ⟨c,hl,hr,hc⟩:=ih (by omega)
    obtain ⟨u,hu,hru⟩:=hg m (by omega)
    refine ⟨c++[u],by simp [hl],?_,?_⟩
    ·rw [List.range_succ,List.map_append]
     exact hr.append (by simp [VRels,hru])
    ·intro j v hj
     by_cases hjm:j<m
     ·rw [List.getElem?_append_left (by omega)] at hj
      exact hc j v hj
     ·rw [List.getElem?_append_right (by omega)] at hj
      have:j=m:=by
       have:=(List.getElem?_eq_some_iff.1 hj).1
       simp at this; omega
      subst this
      simp [hl] at hj
      subst hj; exact hu
  exact this k (Nat.le_refl _)
 unfold AH.rdN at h
 cases hf:H.f n with
 | none=>simp [hf] at h
 | some o =>
  have ho:=hw.obj n o hf
  cases o <;> simp [hf] at h
  case row c g =>
   obtain ⟨hlt,rfl⟩:=h
   obtain ⟨cells,T,hb,hs,hc,hg⟩:=ho
   refine key g fun j hj=>?_
   obtain ⟨u,hu,hr⟩:=hg (off+j) (by omega)
   exact ⟨u,by simp [World.cell?,hb,hu],hr⟩
  case fix c g o =>
   obtain ⟨hlt,rfl⟩:=h
   obtain ⟨hb,cells,T,fr,rfl,hc,hs,hg⟩:=ho
   refine key g fun j hj=>?_
   obtain ⟨u,hu,hr⟩:=hg (off+j) (by omega)
   exact ⟨u,by simp [World.cell?,hb,hu],hr⟩
theorem addr_add (b off n:Nat):(⟨b,off,none⟩:Addr).add n=⟨b,off+n,none⟩:=by
 unfold Addr.add; split
 ·subst_vars; rfl
 ·rfl
theorem run_loadN {b off k:Nat} {c:List Value} (hl:c.length=k) (h : ∀ j u,c[j]? = some u→w.cell? ⟨b,off+j,none⟩=some u) :
  (loadCells ⟨b,off,none⟩ k).run P w=.ok c.toArray w:=by
 subst hl
 exact run_loadCells_list _ _ c fun j v hj=>by rw [addr_add]; exact h j v hj
def Reads (P:Program) (ρ:Nm→Loc) (H:AH) (w:World) (a:Act) (o:Oper) (v:AV):Prop :=
 ∃ v',(execOp a.eval o).run P w=.ok (.value v') w∧VRel ρ H.D v v'
theorem arith_run {op:BinOp} {k:IntKind} {x y:Int} {v:AV} (h:arith op k x y=some v) (T:TypeId) (w:World) :
  ∃ v',(binOp op T (.int k x) (.int k y)).run P w=.ok v' w∧VRel ρ H.D v v':=by
 cases op <;> simp [arith] at h
 case quo =>
  obtain ⟨hy,rfl⟩:=h
  exact ⟨_,by simp [binOp,Op.intDiv,hy]; rfl,by simp [VRel]⟩
 case rem =>
  obtain ⟨hy,rfl⟩:=h
  exact ⟨_,by simp [binOp,Op.intDiv,hy]; rfl,by simp [VRel]⟩
 all_goals (subst h; exact ⟨_,by simp [binOp,Op.intArith,Op.intBits,Op.intCmp]; rfl,by simp [VRel]⟩)
theorem shft_run {op:BinOp} {k k':IntKind} {x y:Int} {v:AV} (h:shft op k x y=some v) (T:TypeId) (w:World) :
  ∃ v',(binOp op T (.int k x) (.int k' y)).run P w=.ok v' w∧VRel ρ H.D v v':=by
 unfold shft at h
 split at h
 ·cases h
 ·rename_i hy
  cases op <;> simp at h
  all_goals (subst h; exact ⟨_,by simp [binOp,Op.shift,hy]; rfl,by simp [VRel]⟩)
theorem binop_run {op:BinOp} {x y:AV} {v:AV} (h:binop op x y=some v) {x' y':Value} (hx:VRel ρ H.D x x') (hy:VRel ρ H.D y y') (T:TypeId) (w:World) :
  ∃ v',(binOp op T x' y').run P w=.ok v' w∧VRel ρ H.D v v':=by
 cases x <;> cases y <;> simp [binop] at h
 case int.int k n k' n' =>
  simp only [VRel] at hx hy
  subst hx; subst hy
  split at h
  ·rename_i hk
   subst hk
   unfold binInt at h
   cases op <;> simp only at h <;> first | exact arith_run h T w | exact shft_run h T w
  ·cases op <;> simp at h <;> exact shft_run h T w
 case str.str s s' =>
  simp only [VRel] at hx hy
  subst hx; subst hy
  cases op <;> simp at h
  case eql=>subst h; exact ⟨_,by simp [binOp,Op.stringOp]; rfl,by simp [VRel]⟩
  case neq=>subst h; exact ⟨_,by simp [binOp,Op.stringOp]; rfl,by simp [VRel]⟩
  case add =>
   obtain ⟨hle,rfl⟩:=h
   refine ⟨.string (s++s'),?_,by simp [VRel]⟩
   simp only [binOp,Op.stringOp]
   rw [if_neg (by have:=IntKind.max_i64; omega)]
   rfl
theorem eqGuard_scalar {op:BinOp} {T:TypeId} {x y:Operand} {u v:Value} (h : ∀ c,u≠.agg c) (h':u≠.nilIface):eqGuard op T x y u v=pure ():=by
 cases op <;> first | rfl | (cases u <;> first | rfl | (exact absurd rfl (h _)) | (exact absurd rfl h'))
theorem foldI_run {f:Int→Int→Int} {g:Value→Value→Sem Value} (hg : ∀ k x k' y,g (.int k x) (.int k' y)=pure (.int k (f x y))) :
  ∀ {l:List AV} {r:List Value} {a:AV} {u:Value} {v:AV},VRel ρ H.D a u→VRels ρ H.D l r→foldI f a l=some v →
   ∃ v',(r.foldlM g u).run P w=.ok v' w∧VRel ρ H.D v v'
 | [],[],a,u,v,hu,_,h=>by
  cases a <;> simp [foldI] at h <;> (subst h; exact ⟨u,by simp,hu⟩)
 | [],_::_,_,_,_,_,hl,_=>by simp [VRels] at hl
 | _::_,[],_,_,_,_,hl,_=>by simp [VRels] at hl
 | b::l,c::r,a,u,v,hu,hl,h=>by
  cases a <;> cases b <;> simp [foldI] at h
  rename_i k x k' y
  simp only [VRels,VRel] at hl hu
  obtain ⟨hc,hl⟩:=hl
  subst hu; subst hc
  have:=foldI_run (f:=f) hg (a:=.int k (f x y)) (u:=.int k (f x y)) (v:=v) (by simp [VRel]) hl h
  simpa [hg] using this
theorem part_plain {T:TypeId} {d:TypeDesc} (h:P.underlying T=some d) (hd:(∃ k,d=.int k)∨d=.bool) (c:Array Value) (off:Nat) (v:Value) (hv:c[off]? = some v) (w:World) :
  (part T c off).run P w=.ok v w:=by
 unfold part isAgg underlying
 rcases hd with ⟨k,rfl⟩ | rfl <;> simp [h,hv]
theorem eqs_run {T:TypeId} {ks:List Bool} {l r:List AV} {xs ys:Array Value} {b:Bool} {fs:Array Field} (hT:P.underlying T=some (.struct fs)) (hfl:flatT P 0 ks fs.toList=true)
  (hst:P.stoodInHeld T=false) (h:eqs ks l r=some b) (hx:VRels ρ H.D l xs.toList) (hy:VRels ρ H.D r ys.toList) (d:Nat) :
  (Op.equalIn (d+2) T (.agg xs) (.agg ys)).run P w=.ok b w:=by
 have hfo:P.fieldsOf T=fs:=by simp [Program.fieldsOf,hT]
 rw [run_equalIn_struct w (d+1) T xs ys (by rw [hfo]; exact hT) hst,hfo]
 clear hfo hT
 have key : ∀ (fs:List Field) (i:Nat) (ks:List Bool) (l r:List AV) (b:Bool),flatT P i ks fs=true→eqs ks l r=some b →
   VRels ρ H.D l (xs.toList.drop i)→VRels ρ H.D r (ys.toList.drop i)→(Op.eqFields (d+1) xs ys fs).run P w=.ok b w:=by
  intro fs
  induction fs with
  | nil =>
   intro i ks l r b hf h _ _
   cases ks <;> simp [flatT] at hf
   cases l <;> cases r <;> simp [eqs] at h
   subst h; simp [Op.eqFields]
  | cons f fs ih =>
   intro i ks l r b hf h hx hy
   cases ks with
   | nil=>simp [flatT] at hf
   | cons k ks =>
   simp only [flatT,Bool.and_eq_true] at hf
   obtain ⟨⟨⟨ho,hn⟩,ht⟩,hf⟩:=hf
   have ho:f.offset=i:=by simpa using ho
   have hn : f.name ≠ "_" := by simpa using hn
   have dr : ∀ (z:Array Value) (l':List AV) (a0:AV),VRels ρ H.D (a0::l') (z.toList.drop i)→VRels ρ H.D l' (z.toList.drop (i+1)):=by
    intro z l' a0 hz
    have:=hz.drop 1; simpa [Nat.add_comm] using this
   cases k with
   | false =>
    cases l with
    | nil=>simp [eqs] at h
    | cons a l =>
    cases r with
    | nil=>cases a <;> simp [eqs] at h
    | cons a' r =>
    cases a <;> cases a' <;> simp [eqs] at h
    rename_i k1 n1 k2 n2
    obtain ⟨hk,h⟩:=h
    subst hk
    obtain ⟨u,hu,hru⟩:=hx.get 0 _ (by simp; rfl)
    obtain ⟨u',hu',hru'⟩:=hy.get 0 _ (by simp; rfl)
    simp only [VRel] at hru hru'
    subst hru; subst hru'
    have ht : ∃ k,P.underlying f.type=some (.int k):=by
     revert ht
     cases hq:P.underlying f.type with
     | none=>simp
     | some d=>cases d <;> simp
    obtain ⟨k,hk⟩:=ht
    have hxu:xs[f.offset]? = some (.int k1 n1):=by simpa [ho] using hu
    have hyu:ys[f.offset]? = some (.int k1 n2):=by simpa [ho] using hu'
    simp only [Op.eqFields,hn,ne_eq,not_false_eq_true,if_true,Sem.run_bind,part_plain hk (.inl ⟨k,rfl⟩) _ _ _ hxu,part_plain hk (.inl ⟨k,rfl⟩) _ _ _ hyu,
     Result.andThen_ok,run_equalIn_int _ d f.type _ _ _ _ hk]
    cases hr:eqs ks l r with
    | none=>simp [hr] at h
    | some y =>
    simp [hr] at h
    by_cases hnn:n1=n2
    ·subst hnn
     simp at h; subst h
     simp only [BEq.rfl,Bool.not_true,Bool.false_eq_true,if_false]
     exact ih (i+1) ks l r y hf hr (dr xs _ _ hx) (dr ys _ _ hy)
    ·have:(n1==n2)=false:=by simpa using hnn
     simp [this] at h ⊢
     exact h
   | true =>
    cases l with
    | nil=>simp [eqs] at h
    | cons a l =>
    cases r with
    | nil=>cases a <;> simp [eqs] at h
    | cons a' r =>
    cases a <;> cases a' <;> simp [eqs] at h
    rename_i n1 n2
    obtain ⟨u,hu,hru⟩:=hx.get 0 _ (by simp; rfl)
    obtain ⟨u',hu',hru'⟩:=hy.get 0 _ (by simp; rfl)
    simp only [VRel] at hru hru'
    subst hru; subst hru'
    have hk:P.underlying f.type=some .bool:=by
     revert ht
     cases hq:P.underlying f.type with
     | none=>simp
     | some d=>cases d <;> simp
    have hxu:xs[f.offset]? = some (.bool n1):=by simpa [ho] using hu
    have hyu:ys[f.offset]? = some (.bool n2):=by simpa [ho] using hu'
    simp only [Op.eqFields,hn,ne_eq,not_false_eq_true,if_true,Sem.run_bind,part_plain hk (.inr rfl) _ _ _ hxu,part_plain hk (.inr rfl) _ _ _ hyu,
     Result.andThen_ok,run_equalIn_bool' _ d f.type _ _ hk]
    cases hr:eqs ks l r with
    | none=>simp [hr] at h
    | some y =>
    simp [hr] at h
    by_cases hnn:n1=n2
    ·subst hnn
     simp at h; subst h
     simp only [BEq.rfl,Bool.not_true,Bool.false_eq_true,if_false]
     exact ih (i+1) ks l r y hf hr (dr xs _ _ hx) (dr ys _ _ hy)
    ·have:(n1==n2)=false:=by simpa using hnn
     simp [this] at h ⊢
     exact h
 exact key fs.toList 0 ks l r b hfl h (by simpa using hx) (by simpa using hy)
end
end Go.Ab

namespace Go.Ab
open Go
section
variable {P : Program} {ρ : Nm → Loc} {H : AH} {w : World} {t : Fr} {a : Act}
theorem cellsAt_row (hw:HRel ρ H w) {n:Nm} (h:H.cellsAt n=true) :
  ∃ o,H.f n=some o∧o.live=true ∧ ∃ cells T,w.heap[(ρ n).b]? = some (.cells cells T (0,0)):=by
 unfold AH.cellsAt at h
 cases hf:H.f n with
 | none=>simp [hf] at h
 | some o =>
  have ho:=hw.obj n o hf
  cases o <;> simp [hf] at h
  obtain ⟨cells,T,hb,_⟩:=ho
  exact ⟨_,rfl,rfl,cells,T,hb⟩
theorem eq_gd {T:TypeId} {ox oy:Operand} {op:BinOp} {u v:Value} (h : ∀ c,u≠.agg c) (h':u≠.nilIface):(eqGuard op T ox oy u v).run P w=.ok () w:=by
 rw [eqGuard_scalar h h']; rfl
theorem eqv_run_b {T:TypeId} {x y:AV} {b:Bool} (hT:ecT P T .b=true) (h:eqv H .b x y=some b) {x' y':Value} (hx:VRel ρ H.D x x') (hy:VRel ρ H.D y y')
  (ox oy:Operand) (op:BinOp) (d:Nat):(eqGuard op T ox oy x' y').run P w=.ok () w∧(Op.equalIn (d+2) T x' y').run P w=.ok b w:=by
 have hu:P.underlying T=some .bool:=by
  unfold ecT at hT; dsimp only at hT; split at hT <;> first | assumption | cases hT
 cases x <;> cases y <;> simp [eqv] at h
 simp only [VRel] at hx hy; subst hx; subst hy; subst h
 exact ⟨eq_gd (by simp) (by simp),run_equalIn_bool w (d+1) T _ _ hu⟩
theorem eqv_run_p {T:TypeId} {x y:AV} {b:Bool} (hw:HRel ρ H w) (hT:ecT P T .p=true) (h:eqv H .p x y=some b) {x' y':Value} (hx:VRel ρ H.D x x') (hy:VRel ρ H.D y y')
  (ox oy:Operand) (op:BinOp) (d:Nat):(eqGuard op T ox oy x' y').run P w=.ok () w∧(Op.equalIn (d+2) T x' y').run P w=.ok b w:=by
 obtain ⟨el,hu,n,hn0,hsz⟩ : ∃ e,P.underlying T=some (.pointer e) ∧ ∃ n,n≠0 ∧ ∀ w,(sizeOf e).run P w=.ok n w:=by
  unfold ecT at hT; dsimp only at hT; split at hT
  ·rename_i e he
   simp only [Bool.and_eq_true] at hT
   refine ⟨e,he,?_⟩
   cases hi:P.info? e with
   | none=>simp [hi] at hT
   | some i=>exact ⟨i.size,by simpa [sizeT,hi] using hT.1,fun w=>by simp [sizeOf,typeInfo,hi]⟩
  ·cases hT
 cases x <;> cases y <;> simp [eqv] at h
 case nilp.nilp =>
  simp only [VRel] at hx hy; subst hx; subst hy; subst h
  exact ⟨eq_gd (by simp) (by simp),by simp only [Op.equalIn,Sem.run_bind,run_underlying hu,Result.andThen_ok]; rfl⟩
 case nilp.ptr =>
  simp only [VRel] at hx hy; subst hx; obtain ⟨_,rfl⟩:=hy; subst h
  exact ⟨eq_gd (by simp) (by simp),by simp only [Op.equalIn,Sem.run_bind,run_underlying hu,Result.andThen_ok]; rfl⟩
 case ptr.nilp =>
  simp only [VRel] at hx hy; subst hy; obtain ⟨_,rfl⟩:=hx; subst h
  exact ⟨eq_gd (by simp) (by simp),by simp only [Op.equalIn,Sem.run_bind,run_underlying hu,Result.andThen_ok]; rfl⟩
 case ptr.ptr n1 o m u =>
  obtain ⟨⟨h1,h2⟩,rfl⟩:=h
  simp only [VRel] at hx hy
  obtain ⟨_,rfl⟩:=hx
  obtain ⟨_,rfl⟩:=hy
  refine ⟨eq_gd (by simp) (by simp),?_⟩
  obtain ⟨on,hn,hnl,cn,tn,hbn⟩:=cellsAt_row hw h1
  obtain ⟨om,hm,hml,cm,tm,hbm⟩:=cellsAt_row hw h2
  have hsame:(sameAddr ⟨(ρ n1).b,o,none⟩ ⟨(ρ m).b,u,none⟩).run P w=.ok (decide (n1=m)&&o==u) w:=by
   by_cases he:(⟨(ρ n1).b,o,none⟩:Addr)=⟨(ρ m).b,u,none⟩
   ·rw [he,run_sameAddr_same]
    simp at he
    have:=hw.inj n1 m on om hn hm hnl hml he.1
    subst this; simp [he.2]
   ·rw [run_sameAddr_other w he hbn hbm]
    have : ¬ (n1=m∧o=u):=by rintro ⟨rfl,rfl⟩; exact he rfl
    congr 1
    by_cases h1:n1=m
    ·subst h1; simp at this ⊢; exact this
    ·simp [h1]
  simp only [Op.equalIn,Sem.run_bind,run_underlying hu,Result.andThen_ok,hsz]
  rw [if_pos hn0,hsame]
theorem eqv_run_s {T:TypeId} {x y:AV} {b:Bool} (hT:ecT P T .s=true) (h:eqv H .s x y=some b) {x' y':Value} (hx:VRel ρ H.D x x') (hy:VRel ρ H.D y y')
  (ox oy:Operand) (op:BinOp) (d:Nat):(eqGuard op T ox oy x' y').run P w=.ok () w∧(Op.equalIn (d+2) T x' y').run P w=.ok b w:=by
 obtain ⟨el,hu⟩ : ∃ e,P.underlying T=some (.slice e):=by
  unfold ecT at hT; dsimp only at hT; split at hT
  ·exact ⟨_,by assumption⟩
  ·cases hT
 cases x <;> cases y <;> simp [eqv] at h
 case nils.nils =>
  simp only [VRel] at hx hy; subst hx; subst hy; subst h
  exact ⟨eq_gd (by simp) (by simp),by simp only [Op.equalIn,Sem.run_bind,run_underlying hu,Result.andThen_ok]; rfl⟩
 case nils.slice =>
  simp only [VRel] at hx hy; subst hx; obtain ⟨_,a',c',rfl,_⟩:=hy; subst h
  exact ⟨eq_gd (by simp) (by simp),by simp only [Op.equalIn,Sem.run_bind,run_underlying hu,Result.andThen_ok]; rfl⟩
 case slice.nils =>
  simp only [VRel] at hx hy; subst hy; obtain ⟨_,a',c',rfl,_⟩:=hx; subst h
  exact ⟨eq_gd (by simp) (by simp),by simp only [Op.equalIn,Sem.run_bind,run_underlying hu,Result.andThen_ok]; rfl⟩
theorem eqv_run_m {T:TypeId} {x y:AV} {b:Bool} (hT:ecT P T .m=true) (h:eqv H .m x y=some b) {x' y':Value} (hx:VRel ρ H.D x x') (hy:VRel ρ H.D y y')
  (ox oy:Operand) (op:BinOp) (d:Nat):(eqGuard op T ox oy x' y').run P w=.ok () w∧(Op.equalIn (d+2) T x' y').run P w=.ok b w:=by
 obtain ⟨el,ek,hu⟩ : ∃ e k,P.underlying T=some (.map e k):=by
  unfold ecT at hT; dsimp only at hT; split at hT
  ·exact ⟨_,_,by assumption⟩
  ·cases hT
 cases x <;> cases y <;> simp [eqv] at h
 case nilm.nilm =>
  simp only [VRel] at hx hy; subst hx; subst hy; subst h
  exact ⟨eq_gd (by simp) (by simp),by simp only [Op.equalIn,Sem.run_bind,run_underlying hu,Result.andThen_ok]; rfl⟩
 case nilm.map =>
  simp only [VRel] at hx hy; subst hx; obtain ⟨_,rfl⟩:=hy; subst h
  exact ⟨eq_gd (by simp) (by simp),by simp only [Op.equalIn,Sem.run_bind,run_underlying hu,Result.andThen_ok]; rfl⟩
 case map.nilm =>
  simp only [VRel] at hx hy; subst hy; obtain ⟨_,rfl⟩:=hx; subst h
  exact ⟨eq_gd (by simp) (by simp),by simp only [Op.equalIn,Sem.run_bind,run_underlying hu,Result.andThen_ok]; rfl⟩
theorem eqv_run_a {T:TypeId} {ks:List Bool} {x y:AV} {b:Bool} (hT:ecT P T (.a ks)=true) (h:eqv H (.a ks) x y=some b) {x' y':Value} (hx:VRel ρ H.D x x') (hy:VRel ρ H.D y y')
  (ox oy:Operand) (op:BinOp) (d:Nat):(eqGuard op T ox oy x' y').run P w=.ok () w∧(Op.equalIn (d+2) T x' y').run P w=.ok b w:=by
 obtain ⟨fs,hu,hfl,hst,hg⟩ : ∃ fs,P.underlying T=some (.struct fs)∧flatT P 0 ks fs.toList=true∧P.stoodInHeld T=false∧P.eqGuardType P.depth T=false:=by
  unfold ecT at hT; dsimp only at hT; split at hT
  ·rename_i fs hfs
   simp only [Bool.and_eq_true,Bool.not_eq_true'] at hT
   exact ⟨fs,hfs,hT.1.1,hT.1.2,hT.2⟩
  ·cases hT
 cases x <;> cases y <;> simp [eqv] at h
 simp only [VRel] at hx hy
 obtain ⟨xs,rfl,hx⟩:=hx
 obtain ⟨ys,rfl,hy⟩:=hy
 exact ⟨run_eqGuard_agg w op T ox oy xs ys hg,eqs_run hu hfl hst h hx hy d⟩
theorem eqv_run {T:TypeId} {e:EC} {x y:AV} {b:Bool} (hw:HRel ρ H w) (hT:ecT P T e=true) (h:eqv H e x y=some b) {x' y':Value} (hx:VRel ρ H.D x x') (hy:VRel ρ H.D y y')
  (ox oy:Operand) (op:BinOp) (d:Nat):(eqGuard op T ox oy x' y').run P w=.ok () w∧(Op.equalIn (d+2) T x' y').run P w=.ok b w:=by
 cases e with
 | b=>exact eqv_run_b hT h hx hy ox oy op d
 | p=>exact eqv_run_p hw hT h hx hy ox oy op d
 | s=>exact eqv_run_s hT h hx hy ox oy op d
 | m=>exact eqv_run_m hT h hx hy ox oy op d
 | a ks=>exact eqv_run_a hT h hx hy ox oy op d
theorem fillP_run {place:Nat→Option (Nat × Nat)} (ht:TRel ρ H.D t a) : ∀ {ps:List (Nat × Nat × X)} {qs:List (Nat × Operand)} {z l:List AV} {c:Array Value},
  chkParts place ps qs=true→fillP t z ps=some l→VRels ρ H.D z c.toList →
  ∃ c',Instr.fill place c (qs.map fun p=>(p.1,a.eval p.2))=some c'∧VRels ρ H.D l c'.toList
 | [],[],z,l,c,_,h,hz=>by simp [fillP] at h; subst h; exact ⟨c,by simp [Instr.fill],hz⟩
 | [],_::_,_,_,_,h,_,_=>by simp [chkParts] at h
 | _::_,[],_,_,_,h,_,_=>by simp [chkParts] at h
 | (off,n,x)::ps,(i,y)::qs,z,l,c,hc,h,hz=>by
  simp only [chkParts,Bool.and_eq_true,beq_iff_eq] at hc
  obtain ⟨⟨hp,hx⟩,hc⟩:=hc
  simp only [fillP] at h
  split at h
  ·rename_i hh
   obtain ⟨hn,hle,hsc⟩:=hh
   have hv:=chkX_rel ht hx
   have hcells:=hv.cells hsc
   have hlen:(a.eval y).cells.size=n:=by have:=hcells.length; simp at this; omega
   have hcl:z.length=c.size:=by simpa using hz.length
   have hfold : ∀ (vs:List Value) (k:Nat) (c:Array Value),off+k+vs.length≤c.size →
     ((vs.zipIdx k).foldl (fun (cs:Array Value) (p:Value × Nat)=>cs.setIfInBounds (off+p.2) p.1) c).toList=c.toList.take (off+k)++vs++c.toList.drop (off+k+vs.length):=by
    intro vs
    induction vs with
    | nil=>intro k c _; simp
    | cons v vs ih =>
     intro k c hh
     simp only [List.zipIdx_cons,List.foldl_cons]
     rw [ih (k+1) _ (by simp at hh ⊢; omega)]
     simp only [Array.toList_setIfInBounds,List.length_cons]
     simp at hh
     have hlt:off+k<c.toList.length:=by simp; omega
     rw [List.take_set,List.drop_set_of_lt (by omega),show off+(k+1)=off+k+1 by omega,List.take_succ_eq_append_getElem hlt,
      List.set_append_right _ _ (by simp; omega)]
     simp
     have:min (off+k) c.size=off+k:=by omega
     rw [this]
     simp
     congr 1; omega
   have hf2:(((a.eval y).cells.zipIdx.foldl (fun (cs:Array Value) (p:Value × Nat)=>cs.setIfInBounds (off+p.2) p.1) c)).toList =
     c.toList.take off++(a.eval y).cells.toList++c.toList.drop (off+n):=by
    have:=hfold (a.eval y).cells.toList 0 c (by simp; omega)
    rw [← Array.foldl_toList,Array.toList_zipIdx]
    simpa [hlen] using this
   obtain ⟨c',hc',hr⟩:=fillP_run (place:=place) ht (c:=(a.eval y).cells.zipIdx.foldl (fun (cs:Array Value) (p:Value × Nat)=>cs.setIfInBounds (off+p.2) p.1) c) hc h (by
    rw [hf2]; exact ((hz.take off).append hcells).append (hz.drop (off+n)))
   refine ⟨c',?_,hr⟩
   simp only [List.map_cons,Instr.fill,hp]
   rw [if_neg (by simp; omega)]
   exact hc'
  ·cases h
end
end Go.Ab

namespace Go.Ab
open Go
section
variable {P : Program} {ρ : Nm → Loc} {H : AH} {w : World} {t : Fr} {a : Act} {o : Oper} {v : AV}
theorem reads_of {v':Value} (h:(execOp a.eval o).run P w=.ok (.value v') w) (hr:VRel ρ H.D v v'):Reads P ρ H w a o v:=⟨v',h,hr⟩
theorem p_mov {x:X} (ht:TRel ρ H.D t a) (hc:chkPure P o.op (.mov x)=true) (hv:pureV H t (.mov x)=some v):Reads P ρ H w a o v:=by
 obtain ⟨dst,op,ty,pos,aft,g⟩:=o
 simp only [pureV,Option.some.injEq] at hv
 subst hv
 cases op <;> simp only [chkPure,Bool.false_eq_true] at hc
 ·rename_i y; exact reads_of (v':=a.eval y) (by simp [execOp]) (chkX_rel ht hc)
 ·rename_i y; exact reads_of (v':=a.eval y) (by simp [execOp]) (chkX_rel ht hc)
theorem p_pick {c x y:X} (ht:TRel ρ H.D t a) (hc:chkPure P o.op (.pick c x y)=true) (hv:pureV H t (.pick c x y)=some v):Reads P ρ H w a o v:=by
 obtain ⟨dst,op,ty,pos,aft,g⟩:=o
 cases op <;> simp only [chkPure,Bool.false_eq_true] at hc
 simp only [Bool.and_eq_true] at hc
 have h1:=chkX_rel ht hc.1.1
 have h2:=chkX_rel ht hc.1.2
 have h3:=chkX_rel ht hc.2
 simp only [pureV] at hv
 cases hev:ev t c <;> simp [hev] at hv
 rw [hev] at h1; simp only [VRel] at h1
 rename_i b
 cases b <;> simp at hv <;> subst hv
 ·rename_i yc ya yb; exact reads_of (v':=a.eval yb) (by simp [execOp,h1,asBool]) h3
 ·rename_i yc ya yb; exact reads_of (v':=a.eval ya) (by simp [execOp,h1,asBool]) h2
theorem p_ld {x:X} (hw:HRel ρ H w) (ht:TRel ρ H.D t a) (hc:chkPure P o.op (.ld x)=true) (hv:pureV H t (.ld x)=some v):Reads P ρ H w a o v:=by
 obtain ⟨dst,op,ty,pos,aft,g⟩:=o
 cases op <;> simp only [chkPure,Bool.false_eq_true] at hc
 rename_i T y
 simp only [Bool.and_eq_true] at hc
 have hx:=chkX_rel ht hc.2
 simp only [pureV] at hv
 cases hev:ev t x <;> simp [hev] at hv
 rw [hev] at hx
 simp only [VRel] at hx
 obtain ⟨u,hu,hr⟩:=rd_cell hw hv
 refine ⟨u,?_,hr⟩
 simp only [execOp,Instr.loadAt,hx.2,Instr.sureAddr,loadVar,Sem.run_bind,Sem.run_pure,Result.andThen_ok,plainT_run hc.1]
 simp [hu]
theorem p_ldn {x:X} {n:Nat} (hw:HRel ρ H w) (ht:TRel ρ H.D t a) (hc:chkPure P o.op (.ldn x n)=true) (hv:pureV H t (.ldn x n)=some v):Reads P ρ H w a o v:=by
 obtain ⟨dst,op,ty,pos,aft,g⟩:=o
 cases op <;> simp only [chkPure,Bool.false_eq_true] at hc
 rename_i T y
 simp only [Bool.and_eq_true] at hc
 have hx:=chkX_rel ht hc.2
 simp only [pureV] at hv
 cases hev:ev t x <;> simp [hev] at hv
 rw [hev] at hx
 simp only [VRel] at hx
 obtain ⟨l,hl,rfl⟩:=hv
 obtain ⟨c,hcl,hr,hcc⟩:=rdN_cells hw hl
 refine ⟨.agg c.toArray,?_,by simp only [VRel]; exact ⟨_,rfl,by simpa using hr⟩⟩
 simp only [execOp,Instr.loadAt,hx.2,Instr.sureAddr,loadVar,Sem.run_bind,Sem.run_pure,Result.andThen_ok,aggT_run hc.1.1,sizeT_run hc.1.2,if_true,run_loadN hcl hcc]
theorem p_chk {x:X} (ht:TRel ρ H.D t a) (hc:chkPure P o.op (.chk x)=true) (hv:pureV H t (.chk x)=some v):Reads P ρ H w a o v:=by
 obtain ⟨dst,op,ty,pos,aft,g⟩:=o
 cases op <;> simp only [chkPure,Bool.false_eq_true] at hc
 rename_i y
 have hx:=chkX_rel ht hc
 simp only [pureV] at hv
 cases hev:ev t x <;> simp [hev] at hv
 ·rw [hev] at hx
  subst hv
  have hx':=hx
  simp only [VRel] at hx
  exact reads_of (v':=a.eval y) (by simp only [execOp,hx.2]; simp) hx'
 ·rw [hev] at hx
  subst hv
  have hx':=hx
  simp only [VRel] at hx
  obtain ⟨c,hc',_⟩:=hx
  exact reads_of (v':=a.eval y) (by simp only [execOp,hc']; simp) hx'
theorem p_bin {op':BinOp} {x y:X} (ht:TRel ρ H.D t a) (hc:chkPure P o.op (.bin op' x y)=true) (hv:pureV H t (.bin op' x y)=some v):Reads P ρ H w a o v:=by
 obtain ⟨dst,op,ty,pos,aft,g⟩:=o
 cases op <;> simp only [chkPure,Bool.false_eq_true] at hc
 rename_i bop T ox oy T'
 simp only [Bool.and_eq_true,decide_eq_true_eq] at hc
 obtain ⟨⟨rfl,h1⟩,h2⟩:=hc
 have hx:=chkX_rel ht h1
 have hy:=chkX_rel ht h2
 simp only [pureV] at hv
 obtain ⟨v',hr,hrel⟩:=binop_run (P:=P) hv hx hy T w
 refine ⟨v',?_,hrel⟩
 have hg:eqGuard op' T ox oy (a.eval ox) (a.eval oy)=pure ():=by
  refine eqGuard_scalar ?_ ?_ <;> intros <;> intro he
  ·rw [he] at hx
   cases hex:ev t x <;> simp [hex,binop] at hv <;> simp [hex,VRel] at hx
  ·rw [he] at hx
   cases hex:ev t x <;> simp [hex,binop] at hv <;> simp [hex,VRel] at hx
 simp only [execOp,hg,Sem.run_bind,Sem.run_pure,Result.andThen_ok,hr]
theorem p_eq {neg:Bool} {e:EC} {x y:X} (hw:HRel ρ H w) (ht:TRel ρ H.D t a) (hc:chkPure P o.op (.eq neg e x y)=true) (hv:pureV H t (.eq neg e x y)=some v):Reads P ρ H w a o v:=by
 obtain ⟨dst,op,ty,pos,aft,g⟩:=o
 cases op <;> simp only [chkPure,Bool.false_eq_true] at hc
 rename_i bop T ox oy T'
 simp only [Bool.and_eq_true] at hc
 obtain ⟨⟨⟨h0,hT⟩,h1⟩,h2⟩:=hc
 have hx:=chkX_rel ht h1
 have hy:=chkX_rel ht h2
 simp only [pureV] at hv
 cases hb:eqv H e (ev t x) (ev t y) with
 | none=>simp [hb] at hv
 | some b =>
 simp [hb] at hv
 obtain ⟨hg,hq⟩:=eqv_run (P:=P) (w:=w) hw hT hb hx hy ox oy bop 9998
 have hq':(Op.equal T (a.eval ox) (a.eval oy)).run P w=.ok b w:=hq
 have hs : ∀ v1 v2,(∀ k n k' n',¬ (v1=Value.int k n∧v2=Value.int k' n'))→(∀ k n k' n',¬ (v1=Value.float k n∧v2=Value.float k' n'))→(∀ k n m k' n' m',¬ (v1=Value.complex k n m∧v2=Value.complex k' n' m')) →
   (∀ s s',¬ (v1=Value.string s∧v2=Value.string s'))→binOp .eql T v1 v2=(do pure (.bool (← Op.equal T v1 v2)))∧binOp .neq T v1 v2=(do pure (.bool (!(← Op.equal T v1 v2)))):=by
  intro v1 v2 a1 a2 a3 a4
  constructor <;> cases v1 <;> cases v2 <;> first | rfl | (exact absurd ⟨rfl,rfl⟩ (a1 _ _ _ _)) | (exact absurd ⟨rfl,rfl⟩ (a2 _ _ _ _)) | (exact absurd ⟨rfl,rfl⟩ (a3 _ _ _ _ _ _)) | (exact absurd ⟨rfl,rfl⟩ (a4 _ _))
 have hsx : ∀ v1,VRel ρ H.D (ev t x) v1→(∀ k n,v1≠Value.int k n)∧(∀ k n,v1≠Value.float k n)∧(∀ k n m,v1≠Value.complex k n m)∧(∀ s,v1≠Value.string s):=by
  intro v1 hv1
  cases hex:ev t x <;> (try (cases e <;> simp [hex,eqv] at hb; done)) <;> rw [hex] at hv1 <;> simp only [VRel] at hv1
  ·subst hv1; simp
  ·obtain ⟨_,rfl⟩:=hv1; simp
  ·subst hv1; simp
  ·obtain ⟨_,a',c',rfl,_⟩:=hv1; simp
  ·subst hv1; simp
  ·obtain ⟨_,rfl⟩:=hv1; simp
  ·subst hv1; simp
  ·obtain ⟨c',rfl,_⟩:=hv1; simp
 obtain ⟨n1,n2,n3,n4⟩:=hsx _ hx
 obtain ⟨e1,e2⟩:=hs (a.eval ox) (a.eval oy) (fun k n k' n' h=>n1 k n h.1) (fun k n k' n' h=>n2 k n h.1) (fun k n m k' n' m' h=>n3 k n m h.1) (fun s s' h=>n4 s h.1)
 cases bop <;> simp at h0
 ·subst h0; subst hv
  exact reads_of (v':=.bool b) (by simp only [execOp,hg,Sem.run_bind,Sem.run_pure,Result.andThen_ok,e1,hq']) (by simp [VRel])
 ·subst h0; subst hv
  exact reads_of (v':=.bool !b) (by simp only [execOp,hg,Sem.run_bind,Sem.run_pure,Result.andThen_ok,e2,hq']) (by simp [VRel])
theorem p_not {x:X} (ht:TRel ρ H.D t a) (hc:chkPure P o.op (.not x)=true) (hv:pureV H t (.not x)=some v):Reads P ρ H w a o v:=by
 obtain ⟨dst,op,ty,pos,aft,g⟩:=o
 cases op <;> simp only [chkPure,Bool.false_eq_true] at hc
 rename_i uop T y
 cases uop <;> simp only [Bool.false_eq_true] at hc
 have hx:=chkX_rel ht hc
 simp only [pureV] at hv
 cases hev:ev t x <;> simp [hev] at hv
 rw [hev] at hx; simp only [VRel] at hx
 subst hv
 exact reads_of (by simp [execOp,hx,Op.unary]; rfl) (by simp [VRel])
theorem p_neg {x:X} (ht:TRel ρ H.D t a) (hc:chkPure P o.op (.neg x)=true) (hv:pureV H t (.neg x)=some v):Reads P ρ H w a o v:=by
 obtain ⟨dst,op,ty,pos,aft,g⟩:=o
 cases op <;> simp only [chkPure,Bool.false_eq_true] at hc
 rename_i uop T y
 cases uop <;> simp only [Bool.false_eq_true] at hc
 have hx:=chkX_rel ht hc
 simp only [pureV] at hv
 cases hev:ev t x <;> simp [hev] at hv
 rw [hev] at hx; simp only [VRel] at hx
 subst hv
 rename_i k n
 exact reads_of (v':=.int k (k.wrap (0-n))) (by simp [execOp,hx,Op.unary,Op.intArith]) (by simp [VRel])
theorem p_conv {k:IntKind} {x:X} (ht:TRel ρ H.D t a) (hc:chkPure P o.op (.conv k x)=true) (hv:pureV H t (.conv k x)=some v):Reads P ρ H w a o v:=by
 obtain ⟨dst,op,ty,pos,aft,g⟩:=o
 cases op <;> simp only [chkPure,Bool.false_eq_true] at hc
 rename_i S D y
 simp only [Bool.and_eq_true] at hc
 obtain ⟨⟨hs,hd⟩,hx⟩:=hc
 have hx:=chkX_rel ht hx
 simp only [pureV] at hv
 cases hev:ev t x <;> simp [hev] at hv
 rw [hev] at hx; simp only [VRel] at hx
 subst hv
 rename_i k0 n
 have hD:P.underlying D=some (.int k):=by
  split at hd
  ·rename_i k' hk'; simp at hd; subst hd; exact hk'
  ·cases hd
 obtain ⟨S',hS⟩:=Option.isSome_iff_exists.1 hs
 refine reads_of (v':=.int k (k.wrap n)) ?_ (by simp [VRel])
 simp only [execOp,hx,convert,Sem.run_bind,run_underlying hS,run_underlying hD,Result.andThen_ok]
 cases S' <;> simp [Conv.intToInt]
theorem p_fa {x:X} {off:Nat} (ht:TRel ρ H.D t a) (hc:chkPure P o.op (.fa x off)=true) (hv:pureV H t (.fa x off)=some v):Reads P ρ H w a o v:=by
 obtain ⟨dst,op,ty,pos,aft,g⟩:=o
 cases op <;> simp only [chkPure,Bool.false_eq_true] at hc
 rename_i T y f
 simp only [Bool.and_eq_true] at hc
 obtain ⟨hf,hx⟩:=hc
 have hx:=chkX_rel ht hx
 simp only [pureV] at hv
 cases hev:ev t x <;> simp [hev] at hv
 rw [hev] at hx; simp only [VRel] at hx
 subst hv
 rename_i n off0
 cases hft:fieldT P T f off with
 | none=>simp [hft] at hf
 | some t' =>
 simp only [hft,Bool.and_eq_true] at hf
 unfold fieldT at hft
 cases hu:P.underlying T with
 | none=>simp [hu] at hft
 | some d =>
 cases d <;> simp [hu] at hft
 rename_i fs
 cases hfs:fs[f]? with
 | none=>simp [hfs] at hft
 | some fd =>
 simp [hfs] at hft
 obtain ⟨rfl,rfl⟩:=hft
 obtain ⟨i,hi⟩:=Option.isSome_iff_exists.1 hf.1
 have hnz:i.size≠0:=by simpa [sizeT,hi] using hf.2
 refine reads_of (v':=.pointer (some ⟨(ρ n).b,off0+fd.offset,none⟩)) ?_ (by simp only [VRel,and_true]; exact hx.1)
 simp [execOp,Instr.fieldAt,run_underlying hu,hfs,hx.2,Instr.sureAddr,fieldPlace,sizeOf,typeInfo,hi,hnz,addr_add]
theorem p_ix {x i:X} {e:Nat} (hw:HRel ρ H w) (ht:TRel ρ H.D t a) (hc:chkPure P o.op (.ix x i e)=true) (hv:pureV H t (.ix x i e)=some v):Reads P ρ H w a o v:=by
 obtain ⟨dst,op,ty,pos,aft,g⟩:=o
 cases op <;> simp only [chkPure,Bool.false_eq_true] at hc
 rename_i T y j
 simp only [Bool.and_eq_true] at hc
 obtain ⟨⟨hT,hx⟩,hi⟩:=hc
 have hx:=chkX_rel ht hx
 have hi:=chkX_rel ht hi
 simp only [pureV] at hv
 cases hev:ev t x <;> simp [hev] at hv
 cases hei:ev t i <;> simp [hei] at hv
 rw [hev] at hx; simp only [VRel] at hx
 rw [hei] at hi; simp only [VRel] at hi
 rename_i n e' off len k idx
 obtain ⟨⟨h0,h1⟩,rfl⟩:=hv
 obtain ⟨hD,b,cap,hb,hlc,hsp,hor⟩:=hx
 have hb':b=⟨(ρ n).b,off,none⟩:=by
  rcases hor with h | h
  ·exact h.1
  ·omega
 subst hb'
 unfold sliceT at hT
 cases hu:P.underlying T with
 | none=>simp [hu] at hT
 | some d =>
 cases d <;> simp [hu] at hT
 rename_i el
 refine reads_of (v':=.pointer (some ⟨(ρ n).b,off+idx.toNat*e,none⟩)) ?_ (by simp only [VRel,and_true]; exact hD)
 simp [execOp,Instr.indexAt,hi,asIntOf,run_underlying hu,hb,h0,h1,sizeT_run hT.1,addr_add]
theorem p_ixa {x i:X} {len e:Nat} (ht:TRel ρ H.D t a) (hc:chkPure P o.op (.ixa x i len e)=true) (hv:pureV H t (.ixa x i len e)=some v):Reads P ρ H w a o v:=by
 obtain ⟨dst,op,ty,pos,aft,g⟩:=o
 cases op <;> simp only [chkPure,Bool.false_eq_true] at hc
 rename_i T y j
 simp only [Bool.and_eq_true] at hc
 obtain ⟨⟨hT,hx⟩,hi⟩:=hc
 have hx:=chkX_rel ht hx
 have hi:=chkX_rel ht hi
 simp only [pureV] at hv
 cases hev:ev t x <;> simp [hev] at hv
 cases hei:ev t i <;> simp [hei] at hv
 rw [hev] at hx; simp only [VRel] at hx
 rw [hei] at hi; simp only [VRel] at hi
 rename_i n off k idx
 obtain ⟨⟨h0,h1⟩,rfl⟩:=hv
 obtain ⟨hD,hb⟩:=hx
 cases hu:P.underlying T with
 | none=>simp [hu] at hT
 | some d =>
 cases d <;> simp [hu] at hT
 rename_i m el
 obtain ⟨rfl,hT⟩:=hT
 refine reads_of (v':=.pointer (some ⟨(ρ n).b,off+idx.toNat*e,none⟩)) ?_ (by simp only [VRel,and_true]; exact hD)
 simp [execOp,Instr.indexAt,hi,asIntOf,run_underlying hu,hb,Instr.sureAddr,h0,h1,sizeT_run hT,addr_add]
theorem p_idx {x i:X} {len:Nat} (ht:TRel ρ H.D t a) (hc:chkPure P o.op (.idx x i len)=true) (hv:pureV H t (.idx x i len)=some v):Reads P ρ H w a o v:=by
 obtain ⟨dst,op,ty,pos,aft,g⟩:=o
 cases op <;> simp only [chkPure,Bool.false_eq_true] at hc
 rename_i T y j
 simp only [Bool.and_eq_true] at hc
 obtain ⟨⟨hT,hx⟩,hi⟩:=hc
 have hx:=chkX_rel ht hx
 have hi:=chkX_rel ht hi
 simp only [pureV] at hv
 cases hev:ev t x <;> simp [hev] at hv
 cases hei:ev t i <;> simp [hei] at hv
 rw [hev] at hx; simp only [VRel] at hx
 rw [hei] at hi; simp only [VRel] at hi
 rename_i l k idx
 obtain ⟨⟨h0,h1,h2⟩,hvv⟩:=hv
 obtain ⟨c,hb,hr⟩:=hx
 cases hu:P.underlying T with
 | none=>simp [hu] at hT
 | some d =>
 cases d <;> simp [hu] at hT
 rename_i m el
 obtain ⟨⟨rfl,hsz⟩,hpl⟩:=hT
 have hlt:idx.toNat<l.length:=by omega
 obtain ⟨u,hu',hru⟩:=hr.get idx.toNat (l[idx.toNat]) (by simp [hlt])
 have hgd:l[idx.toNat]?.getD AV.any=l[idx.toNat]:=by simp [hlt]
 rw [hgd] at hvv
 subst hvv
 refine reads_of (v':=u) ?_ hru
 simp only [Array.getElem?_toList] at hu'
 simp [execOp,Instr.index,hi,asIntOf,run_underlying hu,hb,h0,h1,sizeT_run hsz,part,plainT_run hpl,hu']
theorem p_idxn {x i:X} {len e:Nat} (ht:TRel ρ H.D t a) (hc:chkPure P o.op (.idxn x i len e)=true) (hv:pureV H t (.idxn x i len e)=some v):Reads P ρ H w a o v:=by
 obtain ⟨dst,op,ty,pos,aft,g⟩:=o
 cases op <;> simp only [chkPure,Bool.false_eq_true] at hc
 rename_i T y j
 simp only [Bool.and_eq_true] at hc
 obtain ⟨⟨hT,hx⟩,hi⟩:=hc
 have hx:=chkX_rel ht hx
 have hi:=chkX_rel ht hi
 simp only [pureV] at hv
 cases hev:ev t x <;> simp [hev] at hv
 cases hei:ev t i <;> simp [hei] at hv
 rw [hev] at hx; simp only [VRel] at hx
 rw [hei] at hi; simp only [VRel] at hi
 rename_i l k idx
 obtain ⟨⟨h0,h1,h2⟩,hvv⟩:=hv
 obtain ⟨c,hb,hr⟩:=hx
 cases hu:P.underlying T with
 | none=>simp [hu] at hT
 | some d =>
 cases d <;> simp [hu] at hT
 rename_i m el
 obtain ⟨⟨rfl,hsz⟩,hpl⟩:=hT
 subst hvv
 refine reads_of (v':=.agg (c.extract (idx.toNat*e) (idx.toNat*e+e))) ?_ ?_
 ·simp [execOp,Instr.index,hi,asIntOf,run_underlying hu,hb,h0,h1,sizeT_run hsz,part,aggT_run hpl]
 ·simp only [VRel]
  refine ⟨_,rfl,?_⟩
  rw [Array.toList_extract,List.extract_eq_take_drop]
  have:=(hr.drop (idx.toNat*e)).take e
  simpa [Nat.add_sub_cancel_left] using this
theorem p_strix {x i:X} (ht:TRel ρ H.D t a) (hc:chkPure P o.op (.strix x i)=true) (hv:pureV H t (.strix x i)=some v):Reads P ρ H w a o v:=by
 obtain ⟨dst,op,ty,pos,aft,g⟩:=o
 cases op <;> simp only [chkPure,Bool.false_eq_true] at hc
 rename_i T y j
 simp only [Bool.and_eq_true] at hc
 obtain ⟨⟨hT,hx⟩,hi⟩:=hc
 have hx:=chkX_rel ht hx
 have hi:=chkX_rel ht hi
 simp only [pureV] at hv
 cases hev:ev t x <;> simp [hev] at hv
 cases hei:ev t i <;> simp [hei] at hv
 rw [hev] at hx; simp only [VRel] at hx
 rw [hei] at hi; simp only [VRel] at hi
 rename_i s k idx
 obtain ⟨⟨h0,h1⟩,rfl⟩:=hv
 have hu:P.underlying T=some .string:=by
  split at hT
  ·assumption
  ·cases hT
 have hlt:idx.toNat<s.size:=by omega
 have hg:s[idx.toNat]? = some (s.data[idx.toNat]'hlt):=by
  rw [getElem?_pos s idx.toNat hlt]; rfl
 refine reads_of (v':=.int .u8 ((s.data[idx.toNat]'hlt).toNat)) ?_ (by have hl':idx.toNat<s.data.size:=hlt; simp [VRel]; rw [Array.getElem?_eq_getElem hl']; rfl)
 simp [execOp,Instr.index,hi,asIntOf,run_underlying hu,hx,h0,hg]
theorem p_fld {x:X} {off:Nat} (ht:TRel ρ H.D t a) (hc:chkPure P o.op (.fld x off)=true) (hv:pureV H t (.fld x off)=some v):Reads P ρ H w a o v:=by
 obtain ⟨dst,op,ty,pos,aft,g⟩:=o
 cases op <;> simp only [chkPure,Bool.false_eq_true] at hc
 rename_i T y f
 simp only [Bool.and_eq_true] at hc
 obtain ⟨hf,hx⟩:=hc
 have hx:=chkX_rel ht hx
 simp only [pureV] at hv
 cases hev:ev t x <;> simp [hev] at hv
 rw [hev] at hx; simp only [VRel] at hx
 obtain ⟨c,hb,hr⟩:=hx
 cases hft:fieldT P T f off with
 | none=>simp [hft] at hf
 | some t' =>
 simp only [hft] at hf
 unfold fieldT at hft
 cases hu:P.underlying T with
 | none=>simp [hu] at hft
 | some d =>
 cases d <;> simp [hu] at hft
 rename_i fs
 cases hfs:fs[f]? with
 | none=>simp [hfs] at hft
 | some fd =>
 simp [hfs] at hft
 obtain ⟨rfl,rfl⟩:=hft
 obtain ⟨u,hu',hru⟩:=hr.get fd.offset v hv
 simp only [Array.getElem?_toList] at hu'
 refine reads_of (v':=u) ?_ hru
 simp [execOp,Instr.field,run_underlying hu,hfs,hb,asAgg,part,plainT_run hf,hu']
theorem p_fldn {x:X} {off n:Nat} (ht:TRel ρ H.D t a) (hc:chkPure P o.op (.fldn x off n)=true) (hv:pureV H t (.fldn x off n)=some v):Reads P ρ H w a o v:=by
 obtain ⟨dst,op,ty,pos,aft,g⟩:=o
 cases op <;> simp only [chkPure,Bool.false_eq_true] at hc
 rename_i T y f
 simp only [Bool.and_eq_true] at hc
 obtain ⟨hf,hx⟩:=hc
 have hx:=chkX_rel ht hx
 simp only [pureV] at hv
 cases hev:ev t x <;> simp [hev] at hv
 rw [hev] at hx; simp only [VRel] at hx
 obtain ⟨c,hb,hr⟩:=hx
 obtain ⟨hle,rfl⟩:=hv
 cases hft:fieldT P T f off with
 | none=>simp [hft] at hf
 | some t' =>
 simp only [hft,Bool.and_eq_true] at hf
 unfold fieldT at hft
 cases hu:P.underlying T with
 | none=>simp [hu] at hft
 | some d =>
 cases d <;> simp [hu] at hft
 rename_i fs
 cases hfs:fs[f]? with
 | none=>simp [hfs] at hft
 | some fd =>
 simp [hfs] at hft
 obtain ⟨rfl,rfl⟩:=hft
 refine reads_of (v':=.agg (c.extract fd.offset (fd.offset+n))) ?_ ?_
 ·simp [execOp,Instr.field,run_underlying hu,hfs,hb,asAgg,part,aggT_run hf.1,sizeT_run hf.2]
 ·simp only [VRel]
  refine ⟨_,rfl,?_⟩
  rw [Array.toList_extract,List.extract_eq_take_drop]
  have:=(hr.drop fd.offset).take n
  simpa [Nat.add_sub_cancel_left] using this
theorem p_ext {x:X} {i:Nat} (ht:TRel ρ H.D t a) (hc:chkPure P o.op (.ext x i)=true) (hv:pureV H t (.ext x i)=some v):Reads P ρ H w a o v:=by
 obtain ⟨dst,op,ty,pos,aft,g⟩:=o
 cases op <;> simp only [chkPure,Bool.false_eq_true] at hc
 rename_i y j
 simp only [Bool.and_eq_true,beq_iff_eq] at hc
 obtain ⟨hx,rfl⟩:=hc
 have hx:=chkX_rel ht hx
 simp only [pureV] at hv
 cases hev:ev t x <;> simp [hev] at hv
 rw [hev] at hx; simp only [VRel] at hx
 obtain ⟨c,hb,hr⟩:=hx
 obtain ⟨u,hu',hru⟩:=hr.get i v hv
 simp only [Array.getElem?_toList] at hu'
 exact reads_of (v':=u) (by simp [execOp,Instr.extract,hb,hu']) hru
theorem mapM_places {fs:List Field} {w:World} (h : ∀ f∈fs,∃ i,P.info? f.type=some i) :
  (fs.mapM fun (f:Field)=>(do pure (f.offset,← sizeOf f.type):Sem (Nat × Nat))).run P w=.ok (fs.map fun f=>(f.offset,((P.info? f.type).map (·.size)).getD 0)) w:=by
 induction fs with
 | nil=>simp
 | cons f fs ih =>
  obtain ⟨i,hi⟩:=h f (by simp)
  have:=ih fun f hf=>h f (by simp [hf])
  simp only [List.mapM_cons,Sem.run_bind,sizeOf,typeInfo,Sem.run_pure,run_program,Result.andThen_ok,hi] at this ⊢
  rw [this]
  simp [hi]
theorem p_bld {zero:List AV} {parts:List (Nat × Nat × X)} (ht:TRel ρ H.D t a) (hc:chkPure P o.op (.bld zero parts)=true) (hv:pureV H t (.bld zero parts)=some v):Reads P ρ H w a o v:=by
 obtain ⟨dst,op,ty,pos,aft,g⟩:=o
 cases op <;> simp only [chkPure,Bool.false_eq_true] at hc
 rename_i T ps
 simp only [Bool.and_eq_true] at hc
 obtain ⟨⟨hz,hag⟩,hps⟩:=hc
 simp only [pureV,Option.map_eq_some_iff] at hv
 obtain ⟨l,hl,rfl⟩:=hv
 unfold zeroT at hz
 cases hi:P.info? T with
 | none=>simp [hi] at hz
 | some i =>
 cases hzz:i.zero with
 | none=>simp [hi,hzz] at hz
 | some z =>
 simp only [hi,hzz] at hz
 have hzr:VRels ρ H.D zero z.cells.toList:=constsOk_rel hz
 have hzero : ∀ w,(zeroValue T).run P w=.ok z w:=fun w=>by simp [zeroValue,typeInfo,hi,hzz]
 have hparts:(ps.map fun p=>(p.1,a.eval p.2)).toList=ps.toList.map fun p=>(p.1,a.eval p.2):=by simp
 cases hu:P.underlying T with
 | none=>simp [hu] at hps
 | some d =>
 cases d <;> simp only [hu,Bool.false_eq_true,Bool.and_eq_true] at hps
 case array m el =>
  cases hie:P.info? el with
  | none=>simp [hie] at hps
  | some x =>
  simp only [hie] at hps
  obtain ⟨c',hfill,hr⟩:=fillP_run ht hps hl hzr
  refine reads_of (v':=.agg c') ?_ (by simp only [VRel]; exact ⟨_,rfl,hr⟩)
  simp only [execOp,Instr.build,Sem.run_bind,hzero,Result.andThen_ok,run_underlying hu,sizeOf,typeInfo,run_program,hie,Sem.run_pure,hparts,hfill]
 case struct fs =>
  have hall : ∀ f∈fs.toList,∃ i,P.info? f.type=some i:=fun f hf=>Option.isSome_iff_exists.1 (List.all_eq_true.1 hps.2 f hf)
  have hm:=mapM_places (P:=P) (w:=w) hall
  have hfill' : ∀ i:Nat,((fs.toList.map fun (f:Field)=>(f.offset,((P.info? f.type).map (·.size)).getD 0))[i]?)=(fs[i]?).bind fun (f:Field)=>(P.info? f.type).map fun x=>(f.offset,x.size):=by
   intro i
   simp only [List.getElem?_map,Array.getElem?_toList]
   cases hfi:fs[i]? with
   | none=>simp
   | some f =>
    obtain ⟨x,hx⟩:=hall f (by rw [Array.mem_toList_iff]; exact Array.mem_of_getElem? hfi)
    simp [hx]
  obtain ⟨c',hfill,hr⟩:=fillP_run ht hps.1 hl hzr
  refine reads_of (v':=.agg c') ?_ (by simp only [VRel]; exact ⟨_,rfl,hr⟩)
  simp only [execOp,Instr.build,Sem.run_bind,hzero,Result.andThen_ok,run_underlying hu]
  rw [show (fs.mapM fun (f:Field)=>(do pure (f.offset,← sizeOf f.type):Sem (Nat × Nat)))=List.toArray <$> (fs.toList.mapM fun (f:Field)=>(do pure (f.offset,← sizeOf f.type):Sem (Nat × Nat))) from Array.mapM_eq_mapM_toList ..]
  simp only [Sem.run_map,hm,Result.andThen_ok,hparts]
  rw [show (fun i=>((fs.toList.map fun (f:Field)=>(f.offset,((P.info? f.type).map (·.size)).getD 0)).toArray)[i]?)=fun (i:Nat)=>(fs[i]?).bind fun (f:Field)=>(P.info? f.type).map fun x=>(f.offset,x.size) from by funext i; rw [← hfill' i]; simp]
  simp only [hfill,Sem.run_pure]
  rfl
theorem p_mkf {f:FuncId} {caps:List X} (ht:TRel ρ H.D t a) (hc:chkPure P o.op (.mkf f caps)=true) (hv:pureV H t (.mkf f caps)=some v):Reads P ρ H w a o v:=by
 obtain ⟨dst,op,ty,pos,aft,g⟩:=o
 cases op <;> simp only [chkPure,Bool.false_eq_true] at hc
 rename_i fn fs cs
 cases fn <;> simp only [Bool.false_eq_true] at hc
 rename_i g
 simp only [Bool.and_eq_true,beq_iff_eq,Array.isEmpty_iff] at hc
 obtain ⟨⟨rfl,rfl⟩,hcs⟩:=hc
 simp only [pureV,Option.some.injEq] at hv
 subst hv
 refine reads_of (v':=.func (.func f) #[] (cs.map a.eval)) (by simp [execOp,Instr.makeFunc]) ?_
 simp only [VRel]
 exact ⟨_,rfl,by simpa using chkXs_rel ht hcs⟩
theorem args_one {args:Array Operand} {y:Operand} (har:args[0]? = some y) (hsz:args.size=1):args = #[y]:=by
 apply Array.ext
 ·simp [hsz]
 ·intro i h1 h2
  have:i=0:=by simp at h2; omega
  subst this
  simp [Array.getElem?_eq_getElem h1] at har
  simpa using har
theorem p_len {x:X} (ht:TRel ρ H.D t a) (hc:chkPure P o.op (.len x)=true) (hv:pureV H t (.len x)=some v):Reads P ρ H w a o v:=by
 obtain ⟨dst,op,ty,pos,aft,g⟩:=o
 cases op <;> simp only [chkPure,Bool.false_eq_true] at hc
 rename_i c
 obtain ⟨callee,args,ats⟩:=c
 cases callee <;> (try simp only [Bool.false_eq_true] at hc)
 rename_i b
 cases b <;> (try simp only [Bool.false_eq_true] at hc)
 cases hat:ats[0]? with
 | none=>simp [hat] at hc
 | some T =>
 cases har:args[0]? with
 | none=>simp [hat,har] at hc
 | some y =>
 simp only [hat,har,Bool.and_eq_true,beq_iff_eq] at hc
 obtain ⟨⟨hx,hsz⟩,hT⟩:=hc
 have hx:=chkX_rel ht hx
 obtain rfl:=args_one har hsz
 obtain ⟨e,hu⟩ : ∃ e,P.underlying T=some (.slice e):=by
  split at hT
  ·exact ⟨_,by assumption⟩
  ·cases hT
 simp only [pureV] at hv
 cases hev:ev t x <;> simp [hev] at hv <;> rw [hev] at hx <;> simp only [VRel] at hx <;> subst hv
 ·obtain ⟨_,b,cap,hb,_⟩:=hx
  exact reads_of (v':=.int .i64 _) (by simp [execOp,resolve,invoke,builtin,Builtin.len_,hat,run_underlying hu,hb,goInt]; rfl) (by simp [VRel])
 ·exact reads_of (v':=.int .i64 0) (by simp [execOp,resolve,invoke,builtin,Builtin.len_,hat,run_underlying hu,hx,goInt]) (by simp [VRel])
theorem p_slen {x:X} (ht:TRel ρ H.D t a) (hc:chkPure P o.op (.slen x)=true) (hv:pureV H t (.slen x)=some v):Reads P ρ H w a o v:=by
 obtain ⟨dst,op,ty,pos,aft,g⟩:=o
 cases op <;> simp only [chkPure,Bool.false_eq_true] at hc
 rename_i c
 obtain ⟨callee,args,ats⟩:=c
 cases callee <;> (try simp only [Bool.false_eq_true] at hc)
 rename_i b
 cases b <;> (try simp only [Bool.false_eq_true] at hc)
 cases hat:ats[0]? with
 | none=>simp [hat] at hc
 | some T =>
 cases har:args[0]? with
 | none=>simp [hat,har] at hc
 | some y =>
 simp only [hat,har,Bool.and_eq_true,beq_iff_eq] at hc
 obtain ⟨⟨hx,hsz⟩,hT⟩:=hc
 have hx:=chkX_rel ht hx
 obtain rfl:=args_one har hsz
 have hu:P.underlying T=some .string:=by
  split at hT
  ·assumption
  ·cases hT
 simp only [pureV] at hv
 cases hev:ev t x <;> simp [hev] at hv
 rw [hev] at hx; simp only [VRel] at hx; subst hv
 exact reads_of (v':=.int .i64 _) (by simp [execOp,resolve,invoke,builtin,Builtin.len_,hat,run_underlying hu,hx,goInt]; rfl) (by simp [VRel])
theorem p_lent {n:Nat} (hc:chkPure P o.op (.lent n)=true) (hv:pureV H t (.lent n)=some v):Reads P ρ H w a o v:=by
 obtain ⟨dst,op,ty,pos,aft,g⟩:=o
 cases op <;> simp only [chkPure,Bool.false_eq_true] at hc
 rename_i c
 obtain ⟨callee,args,ats⟩:=c
 cases callee <;> (try simp only [Bool.false_eq_true] at hc)
 rename_i b
 cases b <;> (try simp only [Bool.false_eq_true] at hc)
 cases hat:ats[0]? with
 | none=>simp [hat] at hc
 | some T =>
 cases har:args[0]? with
 | none=>simp [hat,har] at hc
 | some y =>
 simp only [hat,har] at hc
 obtain ⟨e,hu⟩ : ∃ e,P.underlying T=some (.array n e):=by
  split at hc
  ·simp at hc; subst hc; exact ⟨_,by assumption⟩
  ·cases hc
 simp only [pureV,Option.some.injEq] at hv
 subst hv
 exact reads_of (v':=.int .i64 n) (by simp [execOp,resolve,invoke,builtin,Builtin.len_,hat,har,run_underlying hu,goInt]) (by simp [VRel])
theorem p_mnx {xs:List X} {args:Array Operand} {f:Int→Int→Int} {gg:Value→Value→Sem Value} (ht:TRel ρ H.D t a) (hc:chkXs xs args.toList=true)
  (hg : ∀ k x k' y,gg (.int k x) (.int k' y)=pure (.int k (f x y)))
  (hv:(match evs t xs with | .int k a::r=>foldI f (.int k a) r | _=>none)=some v) :
  ∃ u r v',(args.map a.eval).toList=u::r∧(r.foldlM gg u).run P w=.ok v' w∧VRel ρ H.D v v':=by
 have h:=chkXs_rel ht hc
 cases hev:evs t xs with
 | nil=>simp [hev] at hv
 | cons x l =>
  rw [hev] at h hv
  cases x <;> simp at hv
  have hl:(args.map a.eval).toList=args.toList.map a.eval:=by simp
  cases hargs:args.toList.map a.eval with
  | nil=>rw [hargs] at h; simp [VRels] at h
  | cons u r =>
   rw [hargs] at h
   simp only [VRels] at h
   obtain ⟨v',hr,hrel⟩:=foldI_run (P:=P) (w:=w) hg h.1 h.2 hv
   exact ⟨u,r,v',by rw [hl,hargs],hr,hrel⟩
theorem p_mn {xs:List X} (ht:TRel ρ H.D t a) (hc:chkPure P o.op (.mn xs)=true) (hv:pureV H t (.mn xs)=some v):Reads P ρ H w a o v:=by
 obtain ⟨dst,op,ty,pos,aft,g⟩:=o
 cases op <;> simp only [chkPure,Bool.false_eq_true] at hc
 rename_i c
 obtain ⟨callee,args,ats⟩:=c
 cases callee <;> (try simp only [Bool.false_eq_true] at hc)
 rename_i b
 cases b <;> (try simp only [Bool.false_eq_true] at hc)
 simp only [pureV] at hv
 obtain ⟨u,r,v',h1,h2,h3⟩:=p_mnx (P:=P) (w:=w) (gg:=Builtin.min2) ht hc (fun k x k' y=>rfl) hv
 refine reads_of (v':=v') ?_ h3
 simp only [execOp,resolve,Sem.run_bind,Sem.run_pure,Result.andThen_ok,invoke,builtin,Builtin.min_,h1,h2]
theorem p_mx {xs:List X} (ht:TRel ρ H.D t a) (hc:chkPure P o.op (.mx xs)=true) (hv:pureV H t (.mx xs)=some v):Reads P ρ H w a o v:=by
 obtain ⟨dst,op,ty,pos,aft,g⟩:=o
 cases op <;> simp only [chkPure,Bool.false_eq_true] at hc
 rename_i c
 obtain ⟨callee,args,ats⟩:=c
 cases callee <;> (try simp only [Bool.false_eq_true] at hc)
 rename_i b
 cases b <;> (try simp only [Bool.false_eq_true] at hc)
 simp only [pureV] at hv
 obtain ⟨u,r,v',h1,h2,h3⟩:=p_mnx (P:=P) (w:=w) (gg:=Builtin.max2) ht hc (fun k x k' y=>rfl) hv
 refine reads_of (v':=v') ?_ h3
 simp only [execOp,resolve,Sem.run_bind,Sem.run_pure,Result.andThen_ok,invoke,builtin,Builtin.max_,h1,h2]
end
end Go.Ab

namespace Go.Ab
open Go
section
variable {P : Program} {ρ : Nm → Loc} {H : AH} {w : World} {t : Fr} {a : Act} {o : Oper} {v : AV}
theorem rkey_inj {k k':List Int} {v:Value} (h:rkey k=some v) (h':rkey k'=some v):k=k':=by
 unfold rkey at h h'
 split at h <;> split at h' <;> (try cases h) <;> (try cases h') <;> rfl
theorem keyOf_rel {D:Nm→Prop} {r:Nat} {x:AV} {key:List Int} {u:Value} (h:keyOf r x=some key) (hx:VRel ρ D x u):rkey key=some u∧key.length=r:=by
 unfold keyOf at h
 split at h
 ·simp only [VRel] at hx; subst hx; cases h; simp [rkey]
 ·simp only [VRel,VRels] at hx
  obtain ⟨c,rfl,hr⟩:=hx
  cases h
  have hl:=hr.length
  obtain ⟨u0,h0,hr0⟩:=hr.get 0 _ (by simp; rfl)
  obtain ⟨u1,h1,hr1⟩:=hr.get 1 _ (by simp; rfl)
  simp only [VRel] at hr0 hr1
  subst hr0; subst hr1
  simp only [rkey,List.length_cons,List.length_nil,and_true]
  congr 2
  apply Array.ext
  ·simpa using hl
  ·intro i hi hi'
   simp only [Array.getElem?_toList] at h0 h1
   have:i=0∨i=1:=by simp at hl; omega
   rcases this with rfl | rfl
   ·simp [Array.getElem?_eq_getElem hi'] at h0; simp [h0]
   ·simp [Array.getElem?_eq_getElem hi'] at h1; simp [h1]
 ·cases h
theorem keyVal_rel {D:Nm→Prop} {key:List Int} {u:Value} (h:rkey key=some u):VRel ρ D (keyVal key) u:=by
 unfold rkey at h
 split at h
 ·cases h; simp [keyVal,VRel]
 ·cases h; simp [keyVal,VRel,VRels]
 ·cases h
theorem keyT_cases {T:TypeId} {r:Nat} (hT:keyT P T r=true):(P.underlying T=some (.int .i64)∧r=1) ∨
  ∃ fs,P.underlying T=some (.struct fs)∧r=2∧flatT P 0 [false,false] fs.toList=true∧P.stoodInHeld T=false:=by
 unfold keyT at hT
 split at hT
 ·rename_i h; exact .inl ⟨h,by simpa using hT⟩
 ·rename_i fs h
  simp only [Bool.and_eq_true,beq_iff_eq,Bool.not_eq_true'] at hT
  exact .inr ⟨fs,h,hT.1.1,hT.1.2,hT.2⟩
 ·cases hT
theorem keyT_eq {T:TypeId} {r:Nat} (hT:keyT P T r=true) {k k':List Int} {u u':Value} (hk:rkey k=some u) (hk':rkey k'=some u') (hl:k.length=r) (hl':k'.length=r) (d:Nat) (w:World) :
  (Op.equalIn (d+2) T u u').run P w=.ok (decide (k=k')) w:=by
 rcases keyT_cases hT with ⟨hu,rfl⟩ | ⟨fs,hu,rfl,hfl,hst⟩
 ·obtain ⟨x,rfl⟩ : ∃ x,k=[x]:=by
   match k,hl with
   | [x],_=>exact ⟨x,rfl⟩
  obtain ⟨y,rfl⟩ : ∃ x,k'=[x]:=by
   match k',hl' with
   | [x],_=>exact ⟨x,rfl⟩
  simp [rkey] at hk hk'
  subst hk; subst hk'
  rw [run_equalIn_int w (d+1) T _ _ _ _ hu]
  congr 1
  by_cases h:x=y <;> simp [h]
 ·obtain ⟨x,x',rfl⟩ : ∃ x x',k=[x,x']:=by
   match k,hl with
   | [x,x'],_=>exact ⟨x,x',rfl⟩
  obtain ⟨y,y',rfl⟩ : ∃ x x',k'=[x,x']:=by
   match k',hl' with
   | [x,x'],_=>exact ⟨x,x',rfl⟩
  simp [rkey] at hk hk'
  subst hk; subst hk'
  have:=eqs_run (P:=P) (ρ:=fun _=>⟨0,0⟩) (H:=⟨fun _=>none,0,[]⟩) (w:=w) (ks:=[false,false]) (l:=[.int .i64 x,.int .i64 x']) (r:=[.int .i64 y,.int .i64 y']) (xs := #[.int .i64 x,.int .i64 x']) (ys := #[.int .i64 y,.int .i64 y']) hu hfl hst (by simp [eqs]; rfl) (by simp [VRels,VRel]) (by simp [VRels,VRel]) d
  rw [this]
  congr 1
  by_cases h:x=y <;> by_cases h':x'=y' <;> simp [h,h']
theorem findKey_run {T:TypeId} {r:Nat} (hT:keyT P T r=true) {key:List Int} {u:Value} (hk:rkey key=some u) (hl:key.length=r) (w:World) :
  ∀ (es:List MapEntry),(∀ e∈es,∃ k,k.length=r∧rkey k=some e.key) →
   (∃ (i:Nat) (e:MapEntry),es[i]? = some e∧e.key=u∧(∀ (j:Nat) (e':MapEntry),j<i→es[j]? = some e'→e'.key≠u)∧(Instr.findKey T u es).run P w=.ok (some (i,e.val)) w) ∨
   ((∀ e∈es,e.key≠u)∧(Instr.findKey T u es).run P w=.ok none w):=by
 have ask : ∀ (es:List MapEntry) (n:Nat),(∀ e∈es,∃ k,k.length=r∧rkey k=some e.key) →
   (∃ (i:Nat) (e:MapEntry),es[i]? = some e∧e.key=u∧(∀ (j:Nat) (e':MapEntry),j<i→es[j]? = some e'→e'.key≠u)∧(Instr.findAsking T u es n).run P w=.ok (some (n+i,e.val)) w) ∨
   ((∀ e∈es,e.key≠u)∧(Instr.findAsking T u es n).run P w=.ok none w):=by
  intro es
  induction es with
  | nil=>intro n _; exact .inr ⟨by simp,by simp [Instr.findAsking]⟩
  | cons e es ih =>
   intro n h
   obtain ⟨k,hkl,hke⟩:=h e (by simp)
   have he:(Op.equal T u e.key).run P w=.ok (decide (key=k)) w:=keyT_eq hT hk hke hl hkl 9998 w
   by_cases hkk:key=k
   ·subst hkk
    have:e.key=u:=by rw [hk] at hke; exact (Option.some.inj hke).symm
    refine .inl ⟨0,e,by simp,this,by simp,?_⟩
    simp [Instr.findAsking,he]
   ·have hne:e.key≠u:=fun h'=>hkk (rkey_inj hk (h' ▸ hke))
    rcases ih (n+1) (fun e' he'=>h e' (by simp [he'])) with ⟨i,e',h1,h2,h3,h4⟩ | ⟨h1,h2⟩
    ·refine .inl ⟨i+1,e',by simpa using h1,h2,?_,?_⟩
     ·intro j e'' hj hje
      cases j with
      | zero=>simp at hje; subst hje; exact hne
      | succ j=>exact h3 j e'' (by omega) (by simpa using hje)
     ·simp [Instr.findAsking,he,hkk,h4]; omega
    ·refine .inr ⟨?_,by simp [Instr.findAsking,he,hkk,h2]⟩
     intro e' he'
     rcases List.mem_cons.1 he' with rfl | he'
     ·exact hne
     ·exact h1 e' he'
 intro es h
 rcases keyT_cases hT with ⟨hu,rfl⟩ | ⟨fs,hu,rfl,hfl,hst⟩
 ·have now : ∀ (es:List MapEntry) (n:Nat),(∀ e∈es,∃ k,k.length=1∧rkey k=some e.key) →
    (∃ (i:Nat) (e:MapEntry),es[i]? = some e∧e.key=u∧(∀ (j:Nat) (e':MapEntry),j<i→es[j]? = some e'→e'.key≠u)∧Instr.findNow (.int .i64) u es n=some (some (n+i,e.val))) ∨
    ((∀ e∈es,e.key≠u)∧Instr.findNow (.int .i64) u es n=some none):=by
   intro es
   induction es with
   | nil=>intro n _; exact .inr ⟨by simp,by simp [Instr.findNow]⟩
   | cons e es ih =>
    intro n h
    obtain ⟨k,hkl,hke⟩:=h e (by simp)
    obtain ⟨x,rfl⟩ : ∃ x,key=[x]:=by
     match key,hl with
     | [x],_=>exact ⟨x,rfl⟩
    obtain ⟨y,rfl⟩ : ∃ x,k=[x]:=by
     match k,hkl with
     | [x],_=>exact ⟨x,rfl⟩
    simp [rkey] at hk hke
    subst hk
    by_cases hxy:x=y
    ·subst hxy
     exact .inl ⟨0,e,by simp,hke.symm,by simp,by simp [Instr.findNow,← hke,Instr.sameNow]⟩
    ·have hne:e.key≠.int .i64 x:=by rw [← hke]; simp; exact fun h=>hxy h.symm
     have hf:(x==y)=false:=by simpa using hxy
     have hst:Instr.findNow (.int .i64) (.int .i64 x) (e::es) n=Instr.findNow (.int .i64) (.int .i64 x) es (n+1):=by
      simp only [Instr.findNow,← hke,Instr.sameNow,if_true,hf]
     rw [hst]
     rcases ih (n+1) (fun e' he'=>h e' (by simp [he'])) with ⟨i,e',h1,h2,h3,h4⟩ | ⟨h1,h2⟩
     ·refine .inl ⟨i+1,e',by simpa using h1,h2,?_,?_⟩
      ·intro j e'' hj hje
       cases j with
       | zero=>simp at hje; subst hje; exact hne
       | succ j=>exact h3 j e'' (by omega) (by simpa using hje)
      ·rw [h4]; congr 3; omega
     ·refine .inr ⟨?_,h2⟩
      intro e' he'
      rcases List.mem_cons.1 he' with rfl | he'
      ·exact hne
      ·exact h1 e' he'
  rcases now es 0 h with ⟨i,e,h1,h2,h3,h4⟩ | ⟨h1,h2⟩
  ·exact .inl ⟨i,e,h1,h2,h3,by simp [Instr.findKey,run_underlying hu,h4]⟩
  ·exact .inr ⟨h1,by simp [Instr.findKey,run_underlying hu,h2]⟩
 ·cases es with
  | nil=>exact .inr ⟨by simp,by simp [Instr.findKey,run_underlying hu,Instr.findNow]⟩
  | cons e es =>
   have hn:Instr.findNow (.struct fs) u (e::es) 0=none:=by simp [Instr.findNow,Instr.sameNow]
   rcases ask (e::es) 0 h with ⟨i,e',h1,h2,h3,h4⟩ | ⟨h1,h2⟩
   ·exact .inl ⟨i,e',h1,h2,h3,by simp [Instr.findKey,run_underlying hu,hn,h4]⟩
   ·exact .inr ⟨h1,by simp [Instr.findKey,run_underlying hu,hn,h2]⟩
theorem checkKey_run {T:TypeId} {r:Nat} (hT:keyT P T r=true) {key:List Int} {u:Value} (hk:rkey key=some u) (hl:key.length=r) (b:Bool) (d:Nat) (w:World) :
  (Instr.checkKey b (d+2) T u).run P w=.ok () w:=by
 rcases keyT_cases hT with ⟨hu,rfl⟩ | ⟨fs,hu,rfl,hfl,hst⟩
 ·obtain ⟨x,rfl⟩ : ∃ x,key=[x]:=by
   match key,hl with
   | [x],_=>exact ⟨x,rfl⟩
  simp [rkey] at hk
  subst hk
  simp [Instr.checkKey,run_underlying hu]
 ·obtain ⟨x,y,rfl⟩ : ∃ x y,key=[x,y]:=by
   match key,hl with
   | [x,y],_=>exact ⟨x,y,rfl⟩
  simp [rkey] at hk
  subst hk
  match hfs:fs.toList with
  | []=>rw [hfs] at hfl; simp [flatT] at hfl
  | [_]=>rw [hfs] at hfl; simp [flatT] at hfl
  | _::_::_::_=>rw [hfs] at hfl; simp [flatT] at hfl
  | [f,g] =>
   rw [hfs] at hfl
   simp only [flatT,Bool.and_eq_true,beq_iff_eq,bne_iff_ne,ne_eq,and_true] at hfl
   obtain ⟨⟨⟨ho,hn⟩,ht⟩,⟨ho',hn'⟩,ht'⟩:=hfl
   have hk1 : ∃ k,P.underlying f.type=some (.int k):=by
    revert ht
    cases hq:P.underlying f.type with
    | none=>simp
    | some d=>cases d <;> simp
   have hk2 : ∃ k,P.underlying g.type=some (.int k):=by
    revert ht'
    cases hq:P.underlying g.type with
    | none=>simp
    | some d=>cases d <;> simp
   obtain ⟨k1,hk1⟩:=hk1
   obtain ⟨k2,hk2⟩:=hk2
   have p1 : ∀ w,(part f.type #[.int .i64 x,.int .i64 y] f.offset).run P w=.ok (.int .i64 x) w:=fun w=>part_plain hk1 (.inl ⟨_,rfl⟩) _ _ _ (by rw [ho]; rfl) w
   have p2 : ∀ w,(part g.type #[.int .i64 x,.int .i64 y] g.offset).run P w=.ok (.int .i64 y) w:=fun w=>part_plain hk2 (.inl ⟨_,rfl⟩) _ _ _ (by rw [ho']; rfl) w
   simp only [Instr.checkKey,Sem.run_bind,run_underlying hu,Result.andThen_ok]
   rw [← Array.forIn_toList,hfs]
   simp [List.forIn_cons,hn,hn',p1,p2,Instr.checkKey,run_underlying hk1,run_underlying hk2]
end
end Go.Ab

namespace Go.Ab
open Go
section
variable {P : Program} {ρ : Nm → Loc} {H : AH} {w : World} {t : Fr} {a : Act} {o : Oper} {v : AV}
theorem mapT_run {T k e:TypeId} {r:Nat} (h:mapT P T r=some (k,e)):P.underlying T=some (.map k e)∧keyT P k r=true:=by
 unfold mapT at h
 split at h
 ·rename_i k' e' hu
  split at h
  ·rename_i hk; cases h; exact ⟨hu,hk⟩
  ·cases h
 ·cases h
theorem zero1T_run {T:TypeId} {z:AV} {D:Nm→Prop} (h:zero1T P T z=true) : ∃ v,VRel ρ D z v ∧ ∀ w,(zeroValue T).run P w=.ok v w:=by
 unfold zero1T at h
 cases hi:P.info? T with
 | none=>simp [hi] at h
 | some i =>
 cases hz:i.zero with
 | none=>simp [hi,hz] at h
 | some v =>
 simp only [hi,hz] at h
 exact ⟨v,zeroOk_rel h,fun w=>by simp [zeroValue,typeInfo,hi,hz]⟩
theorem mpAt_rel (hw:HRel ρ H w) {r:Nat} {n:Nm} {m:List Int→Option AV} (h:H.mpAt r n=some m) :
  ∃ es clock,w.heap[(ρ n).b]? = some (.map es clock)∧MRel ρ H.D r m es clock:=by
 unfold AH.mpAt at h
 cases hf:H.f n with
 | none=>simp [hf] at h
 | some o =>
  have ho:=hw.obj n o hf
  cases o <;> simp [hf] at h
  case mp r' m' =>
   obtain ⟨rfl,rfl⟩:=h
   exact ho
  case mpi r' m' it seen c =>
   obtain ⟨rfl,rfl⟩:=h
   obtain ⟨es,clock,sb,h1,h2,_⟩:=ho
   exact ⟨es,clock,h1,h2⟩
theorem getObj_map {n:Nat} {es:Array MapEntry} {clock:Nat} (h:w.heap[n]? = some (.map es clock)):(getObj n).run P w=.ok (.map es clock) w:=by
 simp [getObj,Sem.run,h]
theorem MRel.keys {D:Nm→Prop} {r:Nat} {m:List Int→Option AV} {es:Array MapEntry} {clock:Nat} (h:MRel ρ D r m es clock) : ∀ e∈es.toList,∃ k,k.length=r∧rkey k=some e.key:=by
 intro e he
 obtain ⟨key,v,hl,hk,_⟩:=h.fwd e he
 exact ⟨key,hl,hk⟩
theorem find_known {D:Nm→Prop} {T:TypeId} {r:Nat} (hT:keyT P T r=true) {m:List Int→Option AV} {es:Array MapEntry} {clock:Nat} (h:MRel ρ D r m es clock)
  {key:List Int} {u:Value} (hk:rkey key=some u) (hl:key.length=r) (w:World) :
  (∃ (i:Nat) (e:MapEntry) (v:AV),es.toList[i]? = some e∧e.key=u∧m key=some v∧VRel ρ D v e.val∧(Instr.findKey T u es.toList).run P w=.ok (some (i,e.val)) w) ∨
  ((∀ e∈es.toList,e.key≠u)∧m key=none∧(Instr.findKey T u es.toList).run P w=.ok none w):=by
 rcases findKey_run hT hk hl w es.toList h.keys with ⟨i,e,h1,h2,h3,h4⟩ | ⟨h1,h2⟩
 ·have hmem:e∈es.toList:=List.mem_of_getElem? h1
  obtain ⟨key',v,hl',hk',hm,hr⟩:=h.fwd e hmem
  rw [h2] at hk'
  obtain rfl:=rkey_inj hk hk'
  exact .inl ⟨i,e,v,h1,h2,hm,hr,h4⟩
 ·refine .inr ⟨h1,?_,h2⟩
  cases hm:m key with
  | none=>rfl
  | some v =>
   obtain ⟨e,he,hke⟩:=h.bwd key v hm
   rw [hk] at hke
   exact absurd (Option.some.inj hke).symm (h1 e he)
theorem p_look {r:Nat} {m k:X} {zero:AV} {ok:Bool} (hw:HRel ρ H w) (ht:TRel ρ H.D t a) (hc:chkPure P o.op (.look r m k zero ok)=true) (hv:pureV H t (.look r m k zero ok)=some v):Reads P ρ H w a o v:=by
 obtain ⟨dst,op,ty,pos,aft,g⟩:=o
 cases op <;> simp only [chkPure,Bool.false_eq_true] at hc
 rename_i T y j ok'
 simp only [Bool.and_eq_true,beq_iff_eq] at hc
 obtain ⟨⟨⟨hT,hm⟩,hk⟩,rfl⟩:=hc
 have hm:=chkX_rel ht hm
 have hk:=chkX_rel ht hk
 cases hmt:mapT P T r with
 | none=>simp [hmt] at hT
 | some ke =>
 obtain ⟨kt,et⟩:=ke
 simp only [hmt] at hT
 obtain ⟨hu,hkt⟩:=mapT_run hmt
 obtain ⟨z,hzr,hz⟩:=zero1T_run (ρ:=ρ) (D:=H.D) hT
 simp only [pureV] at hv
 cases hkey:keyOf r (ev t k) with
 | none=>cases hev:ev t m <;> simp [hev,hkey] at hv
 | some key =>
 obtain ⟨hrk,hlen⟩:=keyOf_rel hkey hk
 have hck:=fun b w=>checkKey_run (P:=P) hkt hrk hlen b 9998 w
 cases hev:ev t m <;> simp [hev,hkey] at hv <;> rw [hev] at hm <;> simp only [VRel] at hm
 case map n =>
  cases hmp:H.mpAt r n with
  | none=>simp [hmp] at hv
  | some mp =>
  simp [hmp] at hv
  obtain ⟨es,clock,hb,hrel⟩:=mpAt_rel hw hmp
  rcases find_known (P:=P) hkt hrel hrk hlen w with ⟨i,e,v',h1,h2,h3,h4,h5⟩ | ⟨h1,h2,h3⟩
  ·simp [h3] at hv
   subst hv
   cases ok
   ·refine reads_of (v':=e.val) ?_ (by simpa using h4)
    simp [execOp,Instr.lookup,run_underlying hu,hm.2,getObj_map hb,hck,h5]
   ·refine reads_of (v':=.tuple #[e.val,.bool true]) ?_ (by simp [VRel,VRels,h4])
    simp [execOp,Instr.lookup,run_underlying hu,hm.2,getObj_map hb,hck,h5]
  ·simp [h2] at hv
   subst hv
   cases ok
   ·refine reads_of (v':=z) ?_ (by simpa using hzr)
    simp [execOp,Instr.lookup,run_underlying hu,hm.2,getObj_map hb,hck,h3,hz]
   ·refine reads_of (v':=.tuple #[z,.bool false]) ?_ (by simp [VRel,VRels,hzr])
    simp [execOp,Instr.lookup,run_underlying hu,hm.2,getObj_map hb,hck,h3,hz]
 case nilm =>
  subst hv
  have hfk:(Instr.findKey kt (a.eval j) []).run P w=.ok none w:=by
   rcases findKey_run hkt hrk hlen w [] (by simp) with ⟨i,e,h1,_⟩ | ⟨_,h2⟩
   ·simp at h1
   ·exact h2
  cases ok
  ·refine reads_of (v':=z) ?_ (by simpa using hzr)
   simp [execOp,Instr.lookup,run_underlying hu,hm,hck,hfk,hz]
  ·refine reads_of (v':=.tuple #[z,.bool false]) ?_ (by simp [VRel,VRels,hzr])
   simp [execOp,Instr.lookup,run_underlying hu,hm,hck,hfk,hz]
theorem sliceBound_run {x:Option Operand} {x':Option X} {dflt l:Int} {D:Nm→Prop} (ht:TRel ρ D t a) (hx:chkXo x' x=true) (h:bnd (x'.map (ev t)) dflt=some l) :
  (x=none∧l=dflt) ∨ ∃ y k,x=some y∧a.eval y=.int k l:=by
 rcases chkXo_rel ht hx with ⟨rfl,rfl⟩ | ⟨x1,y1,rfl,rfl,hr⟩
 ·simp [bnd] at h; exact .inl ⟨rfl,h.symm⟩
 ·right
  simp only [Option.map_some] at h
  cases hev:ev t x1 <;> simp [hev,bnd] at h
  rw [hev] at hr
  simp only [VRel] at hr
  subst h
  exact ⟨y1,_,rfl,hr⟩
theorem p_slc {x:X} {lo hi:Option X} {e:Nat} (ht:TRel ρ H.D t a) (hc:chkPure P o.op (.slc x lo hi e)=true) (hv:pureV H t (.slc x lo hi e)=some v):Reads P ρ H w a o v:=by
 obtain ⟨dst,op,ty,pos,aft,g⟩:=o
 cases op <;> simp only [chkPure,Bool.false_eq_true] at hc
 rename_i T y l h mx
 cases mx <;> simp only [Bool.false_eq_true] at hc
 simp only [Bool.and_eq_true] at hc
 obtain ⟨⟨⟨hT,hx⟩,hlo⟩,hhi⟩:=hc
 have hx:=chkX_rel ht hx
 unfold sliceT at hT
 cases hu:P.underlying T with
 | none=>simp [hu] at hT
 | some d =>
 cases d <;> simp [hu] at hT
 rename_i el
 obtain ⟨hsz,he0⟩:=hT
 simp only [pureV,slcV] at hv
 cases hev:ev t x <;> simp [hev] at hv <;> rw [hev] at hx <;> simp only [VRel] at hx
 case slice n e' off len =>
  cases hbl:bnd (lo.map (ev t)) 0 with
  | none=>simp [hbl] at hv
  | some l' =>
  cases hbh:bnd (hi.map (ev t)) len with
  | none=>simp [hbl,hbh] at hv
  | some h' =>
  simp [hbl,hbh] at hv
  obtain ⟨⟨rfl,h0,h1,h2⟩,rfl⟩:=hv
  obtain ⟨hD,b,cap,hb,hlc,hsp,hor⟩:=hx
  obtain ⟨L,rfl⟩ : ∃ L:Nat,l'=L:=⟨l'.toNat,by omega⟩
  obtain ⟨h'',rfl⟩ : ∃ L:Nat,h'=L:=⟨h'.toNat,by omega⟩
  have hrun:(Instr.sliceAt T (a.eval y) (l.map a.eval) (h.map a.eval) none).run P w=.ok (.slice (if cap=L then some b else (some b).map (·.add (L*e'))) (h''-L) (cap-L)) w:=by
   have hll:(Instr.sliceBounds true len cap (l.map a.eval) (h.map a.eval) none).run P w=.ok (L,h'',cap) w:=by
    rcases sliceBound_run ht hhi hbh with ⟨rfl,hh⟩ | ⟨yh,kh,rfl,hyh⟩ <;> rcases sliceBound_run ht hlo hbl with ⟨rfl,hll⟩ | ⟨yl,kl,rfl,hyl⟩
    ·simp [Instr.sliceBounds]; omega
    ·simp only [Option.map_none,Option.map_some,Instr.sliceBounds,Sem.run_bind,Sem.run_pure,Result.andThen_ok,hyl,Instr.sliceBound,asIntOf]
     rw [if_pos (by omega)]
     simp; omega
    ·simp only [Option.map_none,Option.map_some,Instr.sliceBounds,Sem.run_bind,Sem.run_pure,Result.andThen_ok,hyh,Instr.sliceBound,asIntOf]
     rw [if_pos (by omega)]
     simp; omega
    ·simp only [Option.map_some,Instr.sliceBounds,Sem.run_bind,Sem.run_pure,Result.andThen_ok,hyh,hyl,Instr.sliceBound,asIntOf]
     rw [if_pos (by omega)]
     simp only [Sem.run_pure,Result.andThen_ok]
     rw [if_pos (by simp; omega)]
     simp
   simp only [Instr.sliceAt,Sem.run_bind,run_underlying hu,Result.andThen_ok,Instr.slice,hb,hll,sizeT_run hsz,Sem.run_pure]
  refine reads_of (v':=.slice (if cap=L then some b else (some b).map (·.add (L*e'))) (h''-L) (cap-L)) (by simp only [execOp,Option.map_none,Sem.run_bind,hrun,Result.andThen_ok,Sem.run_pure]) ?_
  simp only [VRel]
  refine ⟨hD,?_⟩
  by_cases hcl:cap=L
  ·subst hcl
   have:h''-cap=0:=by omega
   have h3:(h'':Int).toNat-(cap:Int).toNat=0:=by omega
   refine ⟨b,0,by simp [this,h3],by omega,hsp,.inr ⟨by omega,rfl⟩⟩
  ·refine ⟨b.add (L*e'),cap-L,by simp [hcl],by omega,?_,?_⟩
   ·unfold Addr.add; split <;> simp [hsp]
   ·left
    rcases hor with ⟨rfl,hcap⟩ | ⟨h3,h4⟩
    ·refine ⟨by simp [addr_add],?_⟩
     intro hoff
     have:L=0:=by
      rcases Nat.eq_zero_or_pos L with h | h
      ·exact h
      ·have:0<L*e':=Nat.mul_pos h (by omega)
       simp at hoff; omega
     subst this
     simp at hoff
     simpa using hcap hoff
    ·omega
 case nils =>
  cases hbl:bnd (lo.map (ev t)) 0 with
  | none=>simp [hbl] at hv
  | some l' =>
  cases hbh:bnd (hi.map (ev t)) 0 with
  | none=>simp [hbl,hbh] at hv
  | some h' =>
  simp [hbl,hbh] at hv
  obtain ⟨⟨rfl,rfl⟩,rfl⟩:=hv
  refine reads_of (v':=.slice none 0 0) ?_ (by simp [VRel])
  have hll:(Instr.sliceBounds true 0 0 (l.map a.eval) (h.map a.eval) none).run P w=.ok (0,0,0) w:=by
   rcases sliceBound_run ht hhi hbh with ⟨rfl,hh⟩ | ⟨yh,kh,rfl,hyh⟩ <;> rcases sliceBound_run ht hlo hbl with ⟨rfl,hll⟩ | ⟨yl,kl,rfl,hyl⟩
   ·simp [Instr.sliceBounds]
   ·simp [Instr.sliceBounds,hyl,Instr.sliceBound,asIntOf]
   ·simp [Instr.sliceBounds,hyh,Instr.sliceBound,asIntOf]
   ·simp [Instr.sliceBounds,hyh,hyl,Instr.sliceBound,asIntOf]
  simp only [execOp,Option.map_none,Instr.sliceAt,Sem.run_bind,run_underlying hu,Result.andThen_ok,Instr.slice,hx,hll,sizeT_run hsz,Sem.run_pure]
  simp
theorem p_sslc {x:X} {lo hi:Option X} (ht:TRel ρ H.D t a) (hc:chkPure P o.op (.sslc x lo hi)=true) (hv:pureV H t (.sslc x lo hi)=some v):Reads P ρ H w a o v:=by
 obtain ⟨dst,op,ty,pos,aft,g⟩:=o
 cases op <;> simp only [chkPure,Bool.false_eq_true] at hc
 rename_i T y l h mx
 cases mx <;> simp only [Bool.false_eq_true] at hc
 simp only [Bool.and_eq_true] at hc
 obtain ⟨⟨⟨hT,hx⟩,hlo⟩,hhi⟩:=hc
 have hx:=chkX_rel ht hx
 have hu:P.underlying T=some .string:=by
  split at hT
  ·assumption
  ·cases hT
 simp only [pureV,sslcV] at hv
 cases hev:ev t x <;> simp [hev] at hv <;> rw [hev] at hx <;> simp only [VRel] at hx
 rename_i s
 cases hbl:bnd (lo.map (ev t)) 0 with
 | none=>simp [hbl] at hv
 | some l' =>
 cases hbh:bnd (hi.map (ev t)) s.size with
 | none=>simp [hbl,hbh] at hv
 | some h' =>
 simp [hbl,hbh] at hv
 obtain ⟨⟨h0,h1,h2⟩,rfl⟩:=hv
 obtain ⟨L,rfl⟩ : ∃ L:Nat,l'=L:=⟨l'.toNat,by omega⟩
 obtain ⟨h'',rfl⟩ : ∃ L:Nat,h'=L:=⟨h'.toNat,by omega⟩
 refine reads_of (v':=.string (s.extract L h'')) ?_ (by simp [VRel])
 have hll:(Instr.sliceBounds false s.size s.size (l.map a.eval) (h.map a.eval) none).run P w=.ok (L,h'',s.size) w:=by
  rcases sliceBound_run ht hhi hbh with ⟨rfl,hh⟩ | ⟨yh,kh,rfl,hyh⟩ <;> rcases sliceBound_run ht hlo hbl with ⟨rfl,hll⟩ | ⟨yl,kl,rfl,hyl⟩
  ·simp [Instr.sliceBounds]; omega
  ·simp only [Option.map_none,Option.map_some,Instr.sliceBounds,Sem.run_bind,Sem.run_pure,Result.andThen_ok,hyl,Instr.sliceBound,asIntOf]
   rw [if_pos (by omega)]
   simp; omega
  ·simp only [Option.map_none,Option.map_some,Instr.sliceBounds,Sem.run_bind,Sem.run_pure,Result.andThen_ok,hyh,Instr.sliceBound,asIntOf]
   rw [if_pos (by omega)]
   simp; omega
  ·simp only [Option.map_some,Instr.sliceBounds,Sem.run_bind,Sem.run_pure,Result.andThen_ok,hyh,hyl,Instr.sliceBound,asIntOf]
   rw [if_pos (by omega)]
   simp only [Sem.run_pure,Result.andThen_ok]
   rw [if_pos (by simp; omega)]
   simp
 simp only [execOp,Option.map_none,Instr.sliceAt,Sem.run_bind,run_underlying hu,Result.andThen_ok,Instr.slice,hx,hll,Option.isSome_none,Bool.false_eq_true,if_false,Sem.run_pure]
theorem p_ent {x:X} (hw:HRel ρ H w) (ht:TRel ρ H.D t a) (hc:chkPure P o.op (.ent x)=true) (hv:pureV H t (.ent x)=some v):Reads P ρ H w a o v:=by
 obtain ⟨dst,op,ty,pos,aft,g⟩:=o
 cases op <;> simp only [chkPure,Bool.false_eq_true] at hc
 rename_i y
 have hx:=chkX_rel ht hc
 simp only [pureV] at hv
 cases hev:ev t x <;> simp [hev] at hv
 rename_i it off
 cases off <;> simp at hv
 cases hf:H.f it with
 | none=>simp [hf] at hv
 | some o1 =>
 cases o1 <;> simp [hf] at hv
 rename_i n
 cases hn:H.f n with
 | none=>simp [hn] at hv
 | some o2 =>
 cases o2 <;> simp [hn] at hv
 rename_i r m it' seen c
 cases seen <;> simp at hv
 rename_i key rest
 obtain ⟨rfl,hv⟩:=hv
 cases hm:m key with
 | none=>simp [hm] at hv
 | some v1 =>
 simp [hm] at hv
 subst hv
 obtain ⟨es,clock,sb,h1,h2,h3,h4,h5,h6,h7,h8⟩:=hw.obj n _ hn
 obtain ⟨e,he,hke⟩:=h2.bwd key v1 hm
 have hback:=h7 key rest rfl e he hke
 rw [hev] at hx
 simp only [VRel] at hx
 obtain ⟨key',v',hl,hk',hmv,hr⟩:=h2.fwd e he
 obtain rfl:=rkey_inj hke hk'
 rw [hm] at hmv; cases hmv
 refine reads_of (v':=.tuple #[e.key,e.val]) ?_ (by simp only [VRel,VRels]; exact ⟨_,rfl,keyVal_rel hke,hr,trivial⟩)
 have hfind:es.find? (fun e'=>e'.born==e.born)=some e:=by
  rw [← Array.find?_toList]
  have hp:=h2.binj
  generalize es.toList=l at he hp
  clear h1 h2 h5 h6 h7
  induction l with
  | nil=>simp at he
  | cons e' l ih =>
   rw [List.pairwise_cons] at hp
   rcases List.mem_cons.1 he with rfl | he'
   ·simp
   ·have hne:(e'.born==e.born)=false:=by simpa using hp.1 e he'
    rw [List.find?_cons,hne]
    exact ih he' hp.2
 simp [execOp,Instr.entry,hx.2,getObj,Sem.run,h4,h1,hback,hfind]
theorem ext_load {fn : Func} (hn : fn.name = "sync/atomic.LoadInt64") (ho : fn.origin = "") : Extern.findNext fn = none ∧ Extern.find fn = some (Extern.Atomic.loadT (.int .i64)) := by
 have h1 : ∀ fn : Func, Extern.findNext { fn with name := "sync/atomic.LoadInt64", origin := "" } = none := fun fn => by kernel_rfl
 have h2 : ∀ fn : Func, Extern.find { fn with name := "sync/atomic.LoadInt64", origin := "" } = some (Extern.Atomic.loadT (.int .i64)) := fun fn => by kernel_rfl
 have hfn : fn = { fn with name := "sync/atomic.LoadInt64", origin := "" } := by cases fn; simp at hn ho; subst hn; subst ho; rfl
 rw [hfn]
 exact ⟨h1 fn,h2 fn⟩
theorem ext_cas {fn : Func} (hn : fn.name = "sync/atomic.CompareAndSwapInt64") (ho : fn.origin = "") : Extern.findNext fn = none ∧ Extern.find fn = some (Extern.Atomic.casT (.int .i64)) := by
 have h1 : ∀ fn : Func, Extern.findNext { fn with name := "sync/atomic.CompareAndSwapInt64", origin := "" } = none := fun fn => by kernel_rfl
 have h2 : ∀ fn : Func, Extern.find { fn with name := "sync/atomic.CompareAndSwapInt64", origin := "" } = some (Extern.Atomic.casT (.int .i64)) := fun fn => by kernel_rfl
 have hfn : fn = { fn with name := "sync/atomic.CompareAndSwapInt64", origin := "" } := by cases fn; simp at hn ho; subst hn; subst ho; rfl
 rw [hfn]
 exact ⟨h1 fn,h2 fn⟩
theorem ext_add64 {fn : Func} (hn : fn.name = "math/bits.Add64") (ho : fn.origin = "") : Extern.findNext fn = none ∧ Extern.find fn = some (fun args => do
  let (x, y, c) ← Extern.MathBitsCarry.three "Add64" args
  pure (Extern.MathBitsCarry.pair ((x+y+c) % Extern.MathBitsCarry.m64) ((x+y+c) / Extern.MathBitsCarry.m64))):=by
 have h1 : ∀ fn : Func, Extern.findNext { fn with name := "math/bits.Add64", origin := "" } = none := fun fn => by kernel_rfl
 have h2 : ∀ fn : Func, Extern.find { fn with name := "math/bits.Add64", origin := "" } = some (fun args => do
  let (x, y, c) ← Extern.MathBitsCarry.three "Add64" args
  pure (Extern.MathBitsCarry.pair ((x+y+c) % Extern.MathBitsCarry.m64) ((x+y+c) / Extern.MathBitsCarry.m64))):=fun fn=>by kernel_rfl
 have hfn : fn = { fn with name := "math/bits.Add64", origin := "" } := by cases fn; simp at hn ho; subst hn; subst ho; rfl
 rw [hfn]
 exact ⟨h1 fn,h2 fn⟩
theorem extern_run {f:FuncId} {fn:Func} {e:Array Value→Sem Value} {args:Array Operand} {ats:Array TypeId} {dst:Option Tmp} {ty:TypeId} {pos:String} {aft:Array Edge} {g:Option (Nat × Bool)}
  (hf : P.funcs[f]? = some fn) (hb : fn.body.isNone = true) (hname : fn.name ≠ "runtime.NumGoroutine") (hn : Extern.findNext fn = none) (he : Extern.find fn = some e) {v' : Value} {w w' : World}
  (hr:(e (args.map a.eval)).run P w=.ok v' w') :
  (execOp a.eval { dst,op:=.call { callee:=.value (.func f),args,argTypes:=ats },type:=ty,pos,after:=aft,guard:=g }).run P w=.ok (.value v') w':=by
 have hb':fn.body=none:=by simpa using hb
 simp [execOp,resolve,Act.eval,Deferred.ofValue,invoke,callFunc,hf,hname,hb',hn,he,hr]
theorem chkXs_len : ∀ {l:List X} {r:List Operand},chkXs l r=true→l.length=r.length
 | [],[],_=>rfl
 | [],_::_,h=>by simp [chkXs] at h
 | _::_,[],h=>by simp [chkXs] at h
 | _::l,_::r,h=>by
  simp only [chkXs,Bool.and_eq_true] at h
  simp [chkXs_len h.2]
theorem p_aload {x:X} (hw:HRel ρ H w) (ht:TRel ρ H.D t a) (hc:chkPure P o.op (.aload x)=true) (hv:pureV H t (.aload x)=some v):Reads P ρ H w a o v:=by
 obtain ⟨dst,op,ty,pos,aft,g⟩:=o
 cases op <;> simp only [chkPure,Bool.false_eq_true] at hc
 rename_i c
 obtain ⟨callee,args,ats⟩:=c
 cases callee <;> (try simp only [Bool.false_eq_true] at hc)
 rename_i y
 cases y <;> (try simp only [Bool.false_eq_true] at hc)
 rename_i f
 simp only [Bool.and_eq_true] at hc
 obtain ⟨hf,hargs⟩:=hc
 cases hff:P.funcs[f]? with
 | none=>simp [hff] at hf
 | some fn =>
 simp only [hff,Bool.and_eq_true,beq_iff_eq] at hf
 obtain ⟨⟨hn,ho⟩,hb⟩:=hf
 obtain ⟨e1,e2⟩:=ext_load hn ho
 have hrel:=chkXs_rel ht hargs
 obtain ⟨y,rfl⟩ : ∃ y,args = #[y]:=by
  have hl:=chkXs_len hargs
  obtain ⟨l⟩:=args
  match l,hl with
  | [y],_=>exact ⟨y,rfl⟩
 simp only [evs,List.map_cons,List.map_nil,VRels,and_true] at hrel
 simp only [pureV] at hv
 cases hev:ev t x <;> simp [hev] at hv
 rename_i n off
 cases hrd:H.rd n off with
 | none=>simp [hrd] at hv
 | some u =>
 cases u <;> simp [hrd] at hv
 rename_i k m
 cases k <;> simp at hv
 subst hv
 rw [hev] at hrel
 simp only [VRel] at hrel
 obtain ⟨u,hu,hru⟩:=rd_cell hw hrd
 simp only [VRel] at hru
 subst hru
 refine reads_of (v':=.int .i64 m) (extern_run hff hb (by rw [hn]; decide) e1 e2 ?_) (by simp [VRel])
 have hld : ∀ z,Extern.Atomic.loadT (.int .i64) #[z]=(do Extern.Atomic.read (.int .i64) (← asAddr z)):=fun _=>rfl
 simp only [List.map_toArray,List.map_cons,List.map_nil,hrel.2,hld]
 simp [asAddr,Extern.Atomic.read,hu]
theorem three_run (nm:String) (ka kb kc:IntKind) (A B C:Nat) (hC:C≤1):(Extern.MathBitsCarry.three nm #[.int ka A,.int kb B,.int kc C]).run P w=.ok (A,B,C) w:=by
 have h3:Extern.MathBitsCarry.three nm #[.int ka A,.int kb B,.int kc C]=((asInt (.int kc C)).bind fun z=>if z.toNat>1 then
   (unsupported (.noEntry ("extern/math/bits." ++ nm ++ ": a carry that is neither 0 nor 1")) : Sem Unit).bind fun _ => ((asInt (.int ka A)).bind fun x => (asInt (.int kb B)).bind fun y => Sem.pure (x.toNat, y.toNat, z.toNat))
   else ((asInt (.int ka A)).bind fun x=>(asInt (.int kb B)).bind fun y=>Sem.pure (x.toNat,y.toNat,z.toNat))):=rfl
 have hz : ∀ k (n:Int),asInt (.int k n)=Sem.pure n:=fun _ _=>rfl
 have : ¬ (1<C):=by omega
 rw [h3,hz,hz,hz]
 show Sem.run P (if (C:Int).toNat>1 then _ else _) w=_
 rw [if_neg (by simp; omega)]
 rfl
theorem add64_rel {D:Nm→Prop} {x y:Nat} {X Y:Int} (h:(x:Int)=X) (h':(y:Int)=Y):VRel ρ D (.tup [.int .u64 X,.int .u64 Y]) (Extern.MathBitsCarry.pair x y):=by
 subst h; subst h'
 simp only [VRel]
 exact ⟨_,rfl,by simp [VRels,VRel]⟩
theorem p_add64 {x y c:X} (ht:TRel ρ H.D t a) (hc:chkPure P o.op (.add64 x y c)=true) (hv:pureV H t (.add64 x y c)=some v):Reads P ρ H w a o v:=by
 obtain ⟨dst,op,ty,pos,aft,g⟩:=o
 cases op <;> simp only [chkPure,Bool.false_eq_true] at hc
 rename_i cc
 obtain ⟨callee,args,ats⟩:=cc
 cases callee <;> (try simp only [Bool.false_eq_true] at hc)
 rename_i y
 cases y <;> (try simp only [Bool.false_eq_true] at hc)
 rename_i f
 simp only [Bool.and_eq_true] at hc
 obtain ⟨hf,hargs⟩:=hc
 cases hff:P.funcs[f]? with
 | none=>simp [hff] at hf
 | some fn =>
 simp only [hff,Bool.and_eq_true,beq_iff_eq] at hf
 obtain ⟨⟨hn,ho⟩,hb⟩:=hf
 obtain ⟨e1,e2⟩:=ext_add64 hn ho
 have hrel:=chkXs_rel ht hargs
 obtain ⟨y1,y2,y3,rfl⟩ : ∃ y1 y2 y3,args = #[y1,y2,y3]:=by
  have hl:=chkXs_len hargs
  obtain ⟨l⟩:=args
  match l,hl with
  | [y1,y2,y3],_=>exact ⟨y1,y2,y3,rfl⟩
 simp only [evs,List.map_cons,List.map_nil,VRels,and_true] at hrel
 simp only [pureV] at hv
 cases h1:ev t x <;> simp [h1] at hv
 rename_i ka A
 cases h2:ev t y <;> simp [h2] at hv
 rename_i kb B
 cases h3:ev t c <;> simp [h3] at hv
 rename_i kc C
 obtain ⟨⟨ha,hbb,hc0,hc1⟩,rfl⟩:=hv
 rw [h1,h2,h3] at hrel
 simp only [VRel] at hrel
 obtain ⟨r1,r2,r3⟩:=hrel
 obtain ⟨A,rfl⟩:=Int.eq_ofNat_of_zero_le ha
 obtain ⟨B,rfl⟩:=Int.eq_ofNat_of_zero_le hbb
 obtain ⟨C,rfl⟩:=Int.eq_ofNat_of_zero_le hc0
 refine reads_of (v':=Extern.MathBitsCarry.pair ((A+B+C) % Extern.MathBitsCarry.m64) ((A+B+C) / Extern.MathBitsCarry.m64)) (extern_run hff hb (by rw [hn]; decide) e1 e2 ?_) ?_
 ·have h4 := three_run (P := P) (w := w) "Add64" ka kb kc A B C (by omega)
  have hm:(#[y1,y2,y3]:Array Operand).map a.eval = #[.int ka A,.int kb B,.int kc C]:=by
   rw [← r1,← r2,← r3]; simp
  rw [hm]
  simp only [Sem.run_bind,h4,Result.andThen_ok,Sem.run_pure]
 ·have hm:(Extern.MathBitsCarry.m64:Nat)=2 ^ 64:=rfl
  have e1:(((A+B+C) % Extern.MathBitsCarry.m64:Nat):Int)=((A:Int)+B+C) % 2 ^ 64:=by rw [hm]; omega
  have e2:(((A+B+C) / Extern.MathBitsCarry.m64:Nat):Int)=((A:Int)+B+C) / 2 ^ 64:=by rw [hm]; omega
  have h4:=add64_rel (ρ:=ρ) (D:=H.D) e1 e2
  exact h4
theorem pure_sound {i:AI} (hw:HRel ρ H w) (ht:TRel ρ H.D t a) (hc:chkPure P o.op i=true) (hv:pureV H t i=some v):Reads P ρ H w a o v:=by
 cases i
 case mov=>exact p_mov ht hc hv
 case pick=>exact p_pick ht hc hv
 case ld=>exact p_ld hw ht hc hv
 case ldn=>exact p_ldn hw ht hc hv
 case chk=>exact p_chk ht hc hv
 case bin=>exact p_bin ht hc hv
 case eq=>exact p_eq hw ht hc hv
 case not=>exact p_not ht hc hv
 case neg=>exact p_neg ht hc hv
 case conv=>exact p_conv ht hc hv
 case fa=>exact p_fa ht hc hv
 case ix=>exact p_ix hw ht hc hv
 case ixa=>exact p_ixa ht hc hv
 case idx=>exact p_idx ht hc hv
 case idxn=>exact p_idxn ht hc hv
 case fld=>exact p_fld ht hc hv
 case fldn=>exact p_fldn ht hc hv
 case ext=>exact p_ext ht hc hv
 case bld=>exact p_bld ht hc hv
 case mkf=>exact p_mkf ht hc hv
 case look=>exact p_look hw ht hc hv
 case len=>exact p_len ht hc hv
 case slen=>exact p_slen ht hc hv
 case lent=>exact p_lent hc hv
 case mn=>exact p_mn ht hc hv
 case mx=>exact p_mx ht hc hv
 case slc=>exact p_slc ht hc hv
 case sslc=>exact p_sslc ht hc hv
 case ent=>exact p_ent hw ht hc hv
 case strix=>exact p_strix ht hc hv
 case aload=>exact p_aload hw ht hc hv
 case add64=>exact p_add64 ht hc hv
 all_goals simp [pureV] at hv
end
end Go.Ab

namespace Go.Ab
open Go
theorem AH.set_f (H:AH) (n m:Nm) (o:AO):(H.set n o).f m=if m=n then some o else H.f m:=rfl
theorem AH.set_same (H:AH) (n:Nm) (o:AO):(H.set n o).f n=some o:=by simp [AH.set]
theorem AH.set_ne (H:AH) {n m:Nm} (o:AO) (h:m≠n):(H.set n o).f m=H.f m:=by simp [AH.set,h]
theorem AH.set_D {H:AH} {n:Nm} {o:AO} (h:H.D n):(H.set n o).D=H.D:=by
 funext m
 simp only [AH.D,AH.set_f]
 by_cases hm:m=n
 ·subst hm
  simp only [if_true,ne_eq,reduceCtorEq,not_false_eq_true,true_or,eq_iff_iff,true_iff]
  exact h
 ·simp [hm]; rfl
theorem AH.D_of {H:AH} {n:Nm} {o:AO} (h:H.f n=some o):H.D n:=.inl (by simp [h])
theorem AH.set_D_mono {H:AH} {n m:Nm} {o:AO} (h:H.D m):(H.set n o).D m:=by
 rcases h with h | h
 ·left; simp only [AH.set_f]; split <;> simp [h]
 ·exact .inr h
section
variable {ρ : Nm → Loc} {H : AH} {w w' : World}
theorem objAt_other {ρ ρ':Nm→Loc} {H H':AH} {w w':World} {m:Nm} {o:AO} (h:objAt ρ H w m o) (hD : ∀ n,H.D n→H'.D n∧ρ' n=ρ n) (hm:H.D m)
  (hb:w'.heap[(ρ m).b]? = w.heap[(ρ m).b]?)
  (hit : ∀ r mp it seen c,o=.mpi r mp it seen c→H.D it∧H'.f it=H.f it∧w'.heap[(ρ it).b]? = w.heap[(ρ it).b]?)
  (hitr : ∀ k,o=.itr k→H.D k):objAt ρ' H' w' m o:=by
 have hρ:=(hD m hm).2
 cases o with
 | row c g =>
  obtain ⟨cells,T,h1,h2,h3,h4⟩:=h
  refine ⟨cells,T,by rw [hρ,hb]; exact h1,by rw [hρ]; exact h2,h3,fun i hi=>?_⟩
  obtain ⟨v,hv,hr⟩:=h4 i hi
  exact ⟨v,hv,hr.mono hD⟩
 | fix c g o =>
  obtain ⟨h0,cells,T,fr,h1,h2,h3,h4⟩:=h
  refine ⟨by rw [hρ,hb]; exact h0,cells,T,fr,h1,h2,by rw [hρ]; exact h3,fun i hi=>?_⟩
  obtain ⟨v,hv,hr⟩:=h4 i hi
  exact ⟨v,hv,hr.mono hD⟩
 | mp r mp =>
  obtain ⟨es,clock,h1,h2⟩:=h
  refine ⟨es,clock,by rw [hρ,hb]; exact h1,⟨?_,h2.bwd,h2.inj,h2.born,h2.binj⟩⟩
  intro e he
  obtain ⟨key,v,q1,q2,q3,q4⟩:=h2.fwd e he
  exact ⟨key,v,q1,q2,q3,q4.mono hD⟩
 | mpb r mp key b =>
  obtain ⟨es,clock,h1,h2,h3⟩:=h
  refine ⟨es,clock,by rw [hρ,hb]; exact h1,⟨?_,h2.bwd,h2.inj,h2.born,h2.binj⟩,h3⟩
  intro e he
  obtain ⟨key,v,q1,q2,q3,q4⟩:=h2.fwd e he
  exact ⟨key,v,q1,q2,q3,q4.mono hD⟩
 | mpi r mp it seen c =>
  obtain ⟨es,clock,sb,h1,h2,h3,h4,h5⟩:=h
  obtain ⟨hDit,hfit,hbit⟩:=hit r mp it seen c rfl
  refine ⟨es,clock,sb,by rw [hρ,hb]; exact h1,⟨?_,h2.bwd,h2.inj,h2.born,h2.binj⟩,by rw [hfit]; exact h3,?_,h5⟩
  ·intro e he
   obtain ⟨key,v,q1,q2,q3,q4⟩:=h2.fwd e he
   exact ⟨key,v,q1,q2,q3,q4.mono hD⟩
  ·rw [(hD it hDit).2,hρ,hbit]; exact h4
 | itr k =>
  obtain ⟨since,sb,st,h1⟩:=h
  exact ⟨since,sb,st,by rw [hρ,hb,(hD k (hitr k rfl)).2]; exact h1⟩
 | itr0 =>
  obtain ⟨since,sb,st,h1⟩:=h
  exact ⟨since,sb,st,by rw [hρ,hb]; exact h1⟩
 | dead=>trivial
theorem HRel.turn (hw:HRel ρ H w) {n:Nm} {o o':AO} (hn:H.f n=some o) (ho:o.live=true) (hno : ∀ k,o≠.itr k) (hno' : ∀ k,o'≠.itr k)
  (hsz:w'.heap.size=w.heap.size) (hoth : ∀ b,b≠(ρ n).b→w'.heap[b]? = w.heap[b]?) (hobj:objAt ρ (H.set n o') w' n o') (hos:w'.os=w.os∧w'.output=w.output:=by exact ⟨rfl,rfl⟩) :
  HRel ρ (H.set n o') w'∧Ext ρ ρ H (H.set n o') w w':=by
 have hDn:H.D n:=AH.D_of hn
 have hD:(H.set n o').D=H.D:=AH.set_D hDn
 refine ⟨⟨?_,?_,?_,?_,?_⟩,⟨fun m hm=>⟨by rw [hD]; exact hm,rfl⟩,Nat.le_of_eq hsz.symm,?_,?_,Int.le_refl _,hos⟩⟩
 ·intro m om hm
  by_cases hmn:m=n
  ·subst hmn; rw [AH.set_same] at hm; cases hm; exact hobj
  ·rw [AH.set_ne H o' hmn] at hm
   by_cases hl:om.live=true
   ·have hne:(ρ m).b≠(ρ n).b:=fun he=>hmn (hw.inj m n om o hm hn hl ho he)
    refine objAt_other (hw.obj m om hm) (fun k hk=>⟨by rw [hD]; exact hk,rfl⟩) (AH.D_of hm) (hoth _ hne) ?_ ?_
    ·intro r mp it seen c he
     subst he
     obtain ⟨es,clock,sb,h1,h2,h3,h4,_⟩:=hw.obj m _ hm
     have hitn:it≠n:=fun he=>by subst he; rw [hn] at h3; exact hno _ (Option.some.inj h3)
     refine ⟨AH.D_of h3,AH.set_ne H o' hitn,hoth _ fun he=>hitn (hw.inj it n _ o h3 hn rfl ho he)⟩
    ·intro k he; subst he; exact hw.io m k hm
   ·cases om <;> simp [AO.live] at hl
    trivial
 ·intro m om hm hl
  rw [hsz]
  by_cases hmn:m=n
  ·subst hmn; exact hw.lt m o hn ho
  ·rw [AH.set_ne H o' hmn] at hm; exact hw.lt m om hm hl
 ·intro m1 m2 o1 o2 h1 h2 l1 l2 he
  by_cases e1:m1=n <;> by_cases e2:m2=n
  ·rw [e1,e2]
  ·subst e1
   rw [AH.set_ne H o' e2] at h2
   exact hw.inj m1 m2 o o2 hn h2 ho l2 he
  ·subst e2
   rw [AH.set_ne H o' e1] at h1
   exact hw.inj m1 m2 o1 o h1 hn l1 ho he
  ·rw [AH.set_ne H o' e1] at h1
   rw [AH.set_ne H o' e2] at h2
   exact hw.inj m1 m2 o1 o2 h1 h2 l1 l2 he
 ·intro m ht hk
  by_cases hmn:m=n
  ·subst hmn
   have:=hw.tmp m ht hk
   rw [hn] at this; cases this
  ·rw [AH.set_ne H o' hmn]; exact hw.tmp m ht hk
 ·intro m k hm
  rw [hD]
  by_cases hmn:m=n
  ·subst hmn; rw [AH.set_same] at hm; exact absurd (Option.some.inj hm) (hno' k)
  ·rw [AH.set_ne H o' hmn] at hm; exact hw.io m k hm
 ·intro b hb hl
  exact hoth b fun he=>hl n o hn ho he.symm
 ·intro m om hm hl hb
  by_cases hmn:m=n
  ·subst hmn; exact ⟨m,o,hn,ho,rfl⟩
  ·rw [AH.set_ne H o' hmn] at hm; exact ⟨m,om,hm,hl,rfl⟩
theorem HRel.new (hw:HRel ρ H w) {n:Nm} {o:AO} {B:Obj} {sz:Nat} (hn : ¬ H.D n) (ht:n.t=0→n.i≤H.k)
  (hobj:objAt (fun m=>if m=n then ⟨w.heap.size,sz⟩ else ρ m) (H.set n o) { w with heap:=w.heap.push B } n o) (hio : ∀ k,o=.itr k→H.D k) :
  HRel (fun m=>if m=n then ⟨w.heap.size,sz⟩ else ρ m) (H.set n o) { w with heap:=w.heap.push B } ∧
   Ext ρ (fun m=>if m=n then ⟨w.heap.size,sz⟩ else ρ m) H (H.set n o) w { w with heap:=w.heap.push B }:=by
 have hnf:H.f n=none:=by
  cases h:H.f n with
  | none=>rfl
  | some o=>exact absurd (AH.D_of h) hn
 have hDD : ∀ m,H.D m→(H.set n o).D m∧(if m=n then (⟨w.heap.size,sz⟩:Loc) else ρ m)=ρ m:=fun m hm =>
  ⟨AH.set_D_mono hm,if_neg (fun (he:m=n)=>hn (he ▸ hm))⟩
 have hheap : ∀ b,b<w.heap.size→({ w with heap:=w.heap.push B }:World).heap[b]? = w.heap[b]? := fun b hb=>by
  simp [Array.getElem?_push,Nat.ne_of_lt hb]
 refine ⟨⟨?_,?_,?_,?_,?_⟩,⟨hDD,by simp,?_,?_,Int.le_refl _,rfl,rfl⟩⟩
 ·intro m om hm
  by_cases hmn:m=n
  ·subst hmn; rw [AH.set_same] at hm; cases hm; exact hobj
  ·rw [AH.set_ne H o hmn] at hm
   by_cases hl:om.live=true
   ·refine objAt_other (hw.obj m om hm) hDD (AH.D_of hm) (hheap _ (hw.lt m om hm hl)) ?_ ?_
    ·intro r mp it seen c he
     subst he
     obtain ⟨es,clock,sb,h1,h2,h3,h4,_⟩:=hw.obj m _ hm
     have hitn:it≠n:=fun he=>by subst he; rw [hnf] at h3; cases h3
     exact ⟨AH.D_of h3,AH.set_ne H o hitn,hheap _ (hw.lt it _ h3 rfl)⟩
    ·intro k he; subst he; exact hw.io m k hm
   ·cases om <;> simp [AO.live] at hl
    trivial
 ·intro m om hm hl
  by_cases hmn:m=n
  ·subst hmn; simp
  ·rw [AH.set_ne H o hmn] at hm
   have:=hw.lt m om hm hl
   simp [hmn]; omega
 ·intro m1 m2 o1 o2 h1 h2 l1 l2 he
  by_cases e1:m1=n <;> by_cases e2:m2=n
  ·rw [e1,e2]
  ·subst e1
   rw [AH.set_ne H o e2] at h2
   have:=hw.lt m2 o2 h2 l2
   simp [e2] at he; omega
  ·subst e2
   rw [AH.set_ne H o e1] at h1
   have:=hw.lt m1 o1 h1 l1
   simp [e1] at he; omega
  ·rw [AH.set_ne H o e1] at h1
   rw [AH.set_ne H o e2] at h2
   simp [e1,e2] at he
   exact hw.inj m1 m2 o1 o2 h1 h2 l1 l2 he
 ·intro m ht' hk
  by_cases hmn:m=n
  ·subst hmn
   have:=ht ht'
   have hk':H.k<m.i:=hk
   omega
  ·rw [AH.set_ne H o hmn]; exact hw.tmp m ht' hk
 ·intro m k hm
  by_cases hmn:m=n
  ·subst hmn; rw [AH.set_same] at hm
   exact AH.set_D_mono (hio k (Option.some.inj hm))
  ·rw [AH.set_ne H o hmn] at hm; exact AH.set_D_mono (hw.io m k hm)
 ·intro b hb hl
  exact hheap b hb
 ·intro m om hm hl hb
  by_cases hmn:m=n
  ·subst hmn; simp at hb
  ·rw [AH.set_ne H o hmn] at hm; exact ⟨m,om,hm,hl,by simp [hmn]⟩
end
end Go.Ab

namespace Go.Ab
open Go
def chkEff (P:Program) (op:Op) (i:AI):Bool:=match i,op with
 | .st x v,.store T y u=>sizeT P T 1&&chkX x y&&chkX v u
 | .stn x v n,.store T y u=>sizeT P T n&&chkX x y&&chkX v u
 | .alc _ zero,.alloc T=>zeroT P T zero
 | .box _ x,.box _ y=>chkX x y
 | .bsl _ zero parts len e,.buildSlice T n ps=>(match P.underlying T with
   | some (.slice t)=>(match P.info? t with
    | some i=>(match i.zero with
     | some z=>n==len&&i.size==e&&len*e≤2 ^ 20&&constsOk zero ((Array.range (len*e)).map fun j=>(if len*e=0 then (#[]:Array Value) else z.cells)[j % (if len*e=0 then (#[]:Array Value) else z.cells).size]!).toList &&
       chkParts (fun i=>some (i*e,e)) parts ps.toList
     | none=>false)
    | none=>false)
   | _=>false)
 | .mkm _ _,.makeMap _ none=>true
 | .mupd r m k v,.mapUpdate T m' k' v' | .mupd r m k v,.insert T m' k' v'=>(mapT P T r).isSome&&chkX m m'&&chkX k k'&&chkX v v'
 | .est m s v,.entryStore _ m' s' v'=>chkX m m'&&chkX s s'&&chkX v v'
 | .del r m k,.call { callee:=.builtin .delete,args,argTypes }=>(match argTypes[0]?,args.toList with
   | some T,[m',k']=>(mapT P T r).isSome&&chkX m m'&&chkX k k'
   | _,_=>false)
 | .app _ s x e,.call { callee:=.builtin .append,args,argTypes }=>(match argTypes.toList,args.toList with
   | [T,T'],[s',x']=>T==T'&&chkX s s'&&chkX x x'&&(match P.underlying T with
    | some (.slice t)=>sizeT P t e&&e != 0&&(match P.info? t with | some i=>i.bytes≤2 ^ 12&&(match i.zero with | some z=>z.cells.size==e | none=>false) | none=>false)
    | _=>false)
   | _,_=>false)
 | .clr x,.call { callee:=.builtin .clear,args,argTypes }=>(match argTypes[0]?,args[0]? with
   | some T,some y=>chkX x y&&args.size==1&&(match P.underlying T with
    | some (.slice t)=>zero1T P t (.int .i64 0)
    | _=>false)
   | _,_=>false)
 | .acas x o n, .call { callee := .value (.func f), args, .. } => (match P.funcs[f]? with | some fn => fn.name == "sync/atomic.CompareAndSwapInt64" && fn.origin == "" && fn.body.isNone | none => false) && chkXs [x, o, n] args.toList
 | _,_=>false
section
variable {P : Program} {ρ : Nm → Loc} {H H' : AH} {w : World} {t : Fr} {a : Act} {o : Oper} {v : AV} {nm : Nat → Nm}
def Effs (P:Program) (ρ:Nm→Loc) (H:AH) (w:World) (a:Act) (o:Oper) (v:AV) (H':AH):Prop :=
 ∃ nx v' w' ρ',(execOp a.eval o).run P w=.ok nx w'∧(nx=.value v'∨(nx=.skip∧v'=undef))∧VRel ρ' H'.D v v'∧HRel ρ' H' w'∧Ext ρ ρ' H H' w w'
def World.setBlk (w:World) (b:Nat) (o:Obj):World:={ w with heap:=w.heap.setIfInBounds b o }
theorem setBlk_size (b:Nat) (o:Obj):(World.setBlk w b o).heap.size=w.heap.size:=by simp [World.setBlk]
theorem setBlk_ne {b b':Nat} (o:Obj) (h:b'≠b):(World.setBlk w b o).heap[b']? = w.heap[b']? := by
 simp [World.setBlk,Array.getElem?_setIfInBounds_ne (Ne.symm h)]
theorem setBlk_same {b:Nat} {o o':Obj} (h:w.heap[b]? = some o'):(World.setBlk w b o).heap[b]? = some o:=by
 have:b<w.heap.size:=by
  rcases Nat.lt_or_ge b w.heap.size with h' | h'
  ·exact h'
  ·simp [Array.getElem?_eq_none h'] at h
 simp [World.setBlk,this]
theorem setCell_blk {b off:Nat} {c:Array Value} {T:TypeId} {f:Nat × Nat} (v:Value) (h:w.heap[b]? = some (.cells c T f)) :
  w.setCell ⟨b,off,none⟩ v=World.setBlk w b (.cells (c.setIfInBounds off v) T f):=by
 simp only [World.setCell,World.setBlk]
 congr 1
 apply Array.ext_getElem?
 intro i
 rw [Array.getElem?_modify,Array.getElem?_setIfInBounds]
 by_cases hi:b=i
 ·subst hi
  have hlt:b<w.heap.size:=by
   rcases Nat.lt_or_ge b w.heap.size with h' | h'
   ·exact h'
   ·simp [Array.getElem?_eq_none h'] at h
  have hb:w.heap[b]=.cells c T f:=by rw [Array.getElem?_eq_getElem hlt] at h; exact Option.some.inj h
  simp [hb,hlt]
 ·simp [hi]
theorem setBlk_setBlk (b:Nat) (o o':Obj):World.setBlk (World.setBlk w b o) b o'=World.setBlk w b o':=by
 simp [World.setBlk]
theorem run_storeCells {b:Nat} {T:TypeId} : ∀ (vs:List Value) (off i:Nat) (c:Array Value) (w:World),w.heap[b]? = some (.cells c T (0,0))→off+i+vs.length≤c.size →
  (∀ v∈vs,v.oneCell'=true) →
  ∃ c',(storeCells ⟨b,off,none⟩ vs i).run P w=.ok () (World.setBlk w b (.cells c' T (0,0)))∧c'.size=c.size ∧
   (∀ j,c'[j]? = if off+i≤j∧j<off+i+vs.length then vs[j-(off+i)]? else c[j]?)
 | [],off,i,c,w,h,_,_=>by
  refine ⟨c,?_,rfl,fun j=>by simp; intro h1 h2; omega⟩
  have:World.setBlk w b (.cells c T (0,0))=w:=by
   simp only [World.setBlk]
   have:w.heap.setIfInBounds b (.cells c T (0,0))=w.heap:=by
    apply Array.ext_getElem?
    intro j
    rw [Array.getElem?_setIfInBounds]
    split
    ·subst_vars
     split
     ·exact h.symm
     ·rename_i hh; simp [Array.getElem?_eq_none (Nat.le_of_not_lt hh)] at h
    ·rfl
   rw [this]
  rw [this]; simp [storeCells]
 | v::vs,off,i,c,w,h,hl,hv=>by
  simp only [List.length_cons] at hl
  have hcell:w.cell? ⟨b,off+i,none⟩=some (c[off+i]'(by omega)):=by
   simp [World.cell?,h,Array.getElem?_eq_getElem (show off+i<c.size by omega)]
  have hfz:w.frozen? ⟨b,off+i,none⟩=false:=by simp [World.frozen?,h]
  have hst:(store ((⟨b,off,none⟩:Addr).add i) v).run P w=.ok () (World.setBlk w b (.cells (c.setIfInBounds (off+i) v) T (0,0))):=by
   simp only [addr_add]
   rw [run_store P w _ v _ (hv v (by simp))]
   simp only [hcell,hfz,Bool.false_eq_true,if_false]
   rw [setCell_blk v h]
  obtain ⟨c',h1,h2,h3⟩:=run_storeCells vs off (i+1) (c.setIfInBounds (off+i) v) (World.setBlk w b (.cells (c.setIfInBounds (off+i) v) T (0,0))) (setBlk_same h) (by simp; omega) (fun u hu=>hv u (by simp [hu]))
  refine ⟨c',?_,by simpa using h2,fun j=>?_⟩
  ·simp only [storeCells,Sem.run_bind,hst,Result.andThen_ok,h1,setBlk_setBlk]
  ·rw [h3 j]
   by_cases hj:j=off+i
   ·subst hj
    have hlt:off+i<c.size:=by omega
    simp [hlt]
    intro h; omega
   ·by_cases hr:off+(i+1)≤j∧j<off+(i+1)+vs.length
    ·rw [if_pos hr,if_pos (by simp; omega)]
     rw [show j-(off+i)=(j-(off+(i+1)))+1 by omega]
     simp
    ·rw [if_neg hr,if_neg (by simp; omega),Array.getElem?_setIfInBounds_ne (Ne.symm hj)]
theorem VRel.one {D:Nm→Prop} {x:AV} {u:Value} (h:VRel ρ D x u) (hs:x.scalar=true):u.oneCell'=true:=(h.scalar1 hs).2
theorem VRels.ones {D:Nm→Prop} : ∀ {l:List AV} {r:List Value},VRels ρ D l r→l.all AV.scalar=true → ∀ u∈r,u.oneCell'=true
 | [],[],_,_,u,hu=>by simp at hu
 | [],_::_,h,_,_,_=>by simp [VRels] at h
 | _::_,[],h,_,_,_=>by simp [VRels] at h
 | x::l,v::r,h,hs,u,hu=>by
  simp only [VRels,List.all_cons,Bool.and_eq_true] at h hs
  rcases List.mem_cons.1 hu with rfl | hu
  ·exact h.1.one hs.1
  ·exact VRels.ones h.2 hs.2 u hu
theorem updN_get : ∀ (l:List AV) (g:Nat→AV) (off j:Nat),updN g off l j=if off≤j∧j<off+l.length then l.getD (j-off) .any else g j
 | [],g,off,j=>by simp [updN]; intro h1 h2; omega
 | v::l,g,off,j=>by
  rw [updN,updN_get l]
  by_cases hj:j=off
  ·subst hj
   simp only [List.length_cons]
   rw [if_neg (by omega),if_pos (by omega)]
   simp [upd]
  ·by_cases h:off+1≤j∧j<off+1+l.length
   ·rw [if_pos h,if_pos (by simp; omega)]
    rw [show j-off=(j-(off+1))+1 by omega]
    simp
   ·rw [if_neg h,if_neg (by simp; omega)]
    have:(j==off)=false:=by simpa using hj
    simp [upd,this]
theorem row_turn (hw:HRel ρ H w) {n:Nm} {c:Nat} {g g':Nat→AV} {cells c':Array Value} {T:TypeId} (hn:H.f n=some (.row c g)) (hb:w.heap[(ρ n).b]? = some (.cells cells T (0,0)))
  (hsz:c'.size=cells.size) (hszρ:cells.size=(ρ n).sz) (hcl:c≤cells.size) (hrel : ∀ j,j<c → ∃ v,c'[j]? = some v∧VRel ρ H.D (g' j) v) :
  HRel ρ (H.set n (.row c g')) (World.setBlk w (ρ n).b (.cells c' T (0,0)))∧Ext ρ ρ H (H.set n (.row c g')) w (World.setBlk w (ρ n).b (.cells c' T (0,0))) :=
 hw.turn hn rfl (by simp) (by simp) (setBlk_size ..) (fun b hb'=>setBlk_ne _ hb')
  ⟨c',T,setBlk_same hb,by rw [hsz,hszρ],by omega,fun i hi=>by
   obtain ⟨v,h1,h2⟩:=hrel i hi
   exact ⟨v,h1,by rw [AH.set_D (AH.D_of hn)]; exact h2⟩⟩
theorem effs_skip {w':World} (h:(execOp a.eval o).run P w=.ok .skip w') (hw:HRel ρ H' w') (he:Ext ρ ρ H H' w w'):Effs P ρ H w a o .any H' :=
 ⟨_,undef,w',ρ,h,.inr ⟨rfl,rfl⟩,by simp [VRel],hw,he⟩
theorem e_st {x u:X} (hw:HRel ρ H w) (ht:TRel ρ H.D t a) (hc:chkEff P o.op (.st x u)=true) (hv:effV nm H t (.st x u)=some (v,H')):Effs P ρ H w a o v H':=by
 obtain ⟨dst,op,ty,pos,aft,g⟩:=o
 cases op <;> simp only [chkEff,Bool.false_eq_true] at hc
 rename_i T y z
 simp only [Bool.and_eq_true] at hc
 have hx:=chkX_rel ht hc.1.2
 have hu:=chkX_rel ht hc.2
 simp only [effV] at hv
 cases hev:ev t x <;> simp [hev] at hv
 rename_i n off
 rw [hev] at hx; simp only [VRel] at hx
 cases hf:H.f n with
 | none=>simp [hf] at hv
 | some o1 =>
 cases o1 <;> simp [hf] at hv
 rename_i c g0
 obtain ⟨⟨hlt,hsc⟩,rfl,rfl⟩:=hv
 obtain ⟨cells,CT,hb,hs,hcl,hg⟩:=hw.obj n _ hf
 obtain ⟨hcs,h1⟩:=hu.scalar1 hsc
 obtain ⟨c',r1,r2,r3⟩:=run_storeCells (P:=P) [a.eval z] off 0 cells w hb (by simp; omega) (by simpa using h1)
 obtain ⟨e1,e2⟩:=row_turn hw hf hb r2 hs hcl (g':=upd g0 off (ev t u)) (fun j hj=>by
  rw [r3 j]
  by_cases hjo:j=off
  ·subst hjo; exact ⟨a.eval z,by simp,by simp [upd,hu]⟩
  ·obtain ⟨v,hv1,hv2⟩:=hg j hj
   refine ⟨v,?_,?_⟩
   ·rw [if_neg (by simp; omega)]; exact hv1
   ·have:(j==off)=false:=by simpa using hjo
    simp [upd,this,hv2])
 refine effs_skip ?_ e1 e2
 simp only [execOp,Instr.storeAt,hx.2,Instr.sureAddr,Sem.run_bind,Sem.run_pure,Result.andThen_ok,storeVar,sizeT_run hc.1.1,hcs]
 simp [r1]
theorem e_stn {x u:X} {k:Nat} (hw:HRel ρ H w) (ht:TRel ρ H.D t a) (hc:chkEff P o.op (.stn x u k)=true) (hv:effV nm H t (.stn x u k)=some (v,H')):Effs P ρ H w a o v H':=by
 obtain ⟨dst,op,ty,pos,aft,g⟩:=o
 cases op <;> simp only [chkEff,Bool.false_eq_true] at hc
 rename_i T y z
 simp only [Bool.and_eq_true] at hc
 have hx:=chkX_rel ht hc.1.2
 have hu:=chkX_rel ht hc.2
 simp only [effV] at hv
 cases hev:ev t x <;> simp [hev] at hv
 rename_i n off
 cases heu:ev t u <;> simp [heu] at hv
 rename_i l
 rw [hev] at hx; simp only [VRel] at hx
 rw [heu] at hu; simp only [VRel] at hu
 obtain ⟨cu,hcu,hru⟩:=hu
 cases hf:H.f n with
 | none=>simp [hf] at hv
 | some o1 =>
 cases o1 <;> simp [hf] at hv
 rename_i c g0
 obtain ⟨⟨hlt,hlen,hsc⟩,rfl,rfl⟩:=hv
 obtain ⟨cells,CT,hb,hs,hcl,hg⟩:=hw.obj n _ hf
 have hones:=hru.ones (by simpa using hsc)
 have hcl':=hru.length
 simp at hcl'
 obtain ⟨c',r1,r2,r3⟩:=run_storeCells (P:=P) cu.toList off 0 cells w hb (by simp; omega) hones
 obtain ⟨e1,e2⟩:=row_turn hw hf hb r2 hs hcl (g':=updN g0 off l) (fun j hj=>by
  rw [r3 j,updN_get]
  by_cases hjo:off≤j∧j<off+l.length
  ·have hlt2:j-off<l.length:=by omega
   obtain ⟨v,hv1,hv2⟩:=hru.get (j-off) _ (List.getElem?_eq_getElem hlt2)
   refine ⟨v,?_,?_⟩
   ·rw [if_pos (by simp; omega)]; simpa using hv1
   ·rw [if_pos hjo]; simpa [hlt2] using hv2
  ·obtain ⟨v,hv1,hv2⟩:=hg j hj
   refine ⟨v,?_,?_⟩
   ·rw [if_neg (by simp; omega)]; exact hv1
   ·rw [if_neg hjo]; exact hv2)
 refine effs_skip ?_ e1 e2
 simp only [execOp,Instr.storeAt,hx.2,Instr.sureAddr,Sem.run_bind,Sem.run_pure,Result.andThen_ok,storeVar,sizeT_run hc.1.1,hcu,Value.cells]
 rw [if_neg (by omega)]
 simp [r1]
theorem zeroCells_one {n:Nat} {z:Value}:(Builtin.zeroCells #[z] n).toList=List.replicate n z:=by
 unfold Builtin.zeroCells
 apply List.ext_getElem?
 intro i
 simp only [List.size_toArray,List.length_cons,List.length_nil,Nat.zero_add,Nat.mul_one,Array.toList_map,Array.toList_range,List.getElem?_map]
 by_cases h:i<n
 ·simp [h,Nat.mod_one]
 ·simp [h]
theorem e_clr {x:X} (hw:HRel ρ H w) (ht:TRel ρ H.D t a) (hc:chkEff P o.op (.clr x)=true) (hv:effV nm H t (.clr x)=some (v,H')):Effs P ρ H w a o v H':=by
 obtain ⟨dst,op,ty,pos,aft,g⟩:=o
 cases op <;> simp only [chkEff,Bool.false_eq_true] at hc
 rename_i c
 obtain ⟨callee,args,ats⟩:=c
 cases callee <;> (try simp only [Bool.false_eq_true] at hc)
 rename_i b
 cases b <;> (try simp only [Bool.false_eq_true] at hc)
 cases hat:ats[0]? with
 | none=>simp [hat] at hc
 | some T =>
 cases harg:args[0]? with
 | none=>simp [hat,harg] at hc
 | some y =>
 simp only [hat,harg,Bool.and_eq_true,beq_iff_eq] at hc
 obtain ⟨⟨hxy,hsz⟩,hz⟩:=hc
 have hargs:args = #[y]:=by
  obtain ⟨l⟩:=args
  match l,hsz with
  | [z],_=>simp at harg; rw [harg]
 subst hargs
 cases hund:P.underlying T with
 | none=>simp [hund] at hz
 | some d =>
 cases d <;> simp only [hund,Bool.false_eq_true] at hz
 rename_i et
 have hzero : ∀ w,(zeroValue et).run P w=.ok (.int .i64 0) w:=by
  unfold zero1T at hz
  cases hi:P.info? et with
  | none=>simp [hi] at hz
  | some i =>
  cases hzz:i.zero with
  | none=>simp [hi,hzz] at hz
  | some z =>
  simp only [hi,hzz] at hz
  cases z <;> simp [zeroOk,constOk] at hz
  rename_i k m
  obtain ⟨rfl,rfl⟩:=hz
  intro w
  simp [zeroValue,typeInfo,hi,hzz]
 have hx:=chkX_rel ht hxy
 have fin : ∀ (w':World) (H'':AH),(Builtin.clear_ ats ty #[a.eval y]).run P w=.ok (.tuple #[]) w'→HRel ρ H'' w'→Ext ρ ρ H H'' w w' →
   Effs P ρ H w a { dst,op:=.call { callee:=.builtin .clear,args := #[y],argTypes:=ats },type:=ty,pos,after:=aft,guard:=g } .any H'':=by
  intro w' H'' h1 h3 h4
  exact ⟨_,.tuple #[],w',ρ,by simp [execOp,resolve,invoke,builtin,h1],.inl rfl,by simp [VRel],h3,h4⟩
 simp only [effV] at hv
 cases hev:ev t x <;> simp only [hev] at hv <;> first | (cases hv; done) | skip
 case nils =>
  simp only [Option.some.injEq,Prod.mk.injEq] at hv
  obtain ⟨rfl,rfl⟩:=hv
  rw [hev] at hx; simp only [VRel] at hx
  exact fin w H (by simp [Builtin.clear_,hat,run_underlying hund,hx]) hw (Ext.refl _ _ _)
 case slice n e off len =>
  rw [hev] at hx; simp only [VRel] at hx
  obtain ⟨hD,ad,cap,hx,hcap,hspot,had⟩:=hx
  by_cases hl:len=0
  ·simp only [hl,if_true,Option.some.injEq,Prod.mk.injEq] at hv
   obtain ⟨rfl,rfl⟩:=hv
   exact fin w H (by simp [Builtin.clear_,hat,run_underlying hund,hx,hl]) hw (Ext.refl _ _ _)
  ·simp only [hl,if_false] at hv
   cases hf:H.f n with
   | none=>simp [hf] at hv
   | some o1 =>
   cases o1 <;> simp only [hf] at hv <;> first | (cases hv; done) | skip
   rename_i c g0
   split at hv
   ·rename_i hcond
    obtain ⟨rfl,hle⟩:=hcond
    simp only [Option.some.injEq,Prod.mk.injEq] at hv
    obtain ⟨rfl,rfl⟩:=hv
    have had':ad=⟨(ρ n).b,off,none⟩:=(had.resolve_right (fun h=>hl h.1)).1
    subst had'
    obtain ⟨cells,CT,hb,hs,hcl,hg⟩:=hw.obj n _ hf
    obtain ⟨c',r1,r2,r3⟩:=run_storeCells (P:=P) (List.replicate len (.int .i64 0)) off 0 cells w hb (by simp; omega) (by
     intro v hv; rw [List.eq_of_mem_replicate hv]; rfl)
    obtain ⟨e1,e2⟩:=row_turn hw hf hb r2 hs hcl (g':=updN g0 off (List.replicate len (.int .i64 0))) (fun j hj=>by
     rw [r3 j,updN_get]
     by_cases hjo:off≤j∧j<off+len
     ·refine ⟨.int .i64 0,?_,?_⟩
      ·rw [if_pos (by simp; omega)]; rw [List.getElem?_replicate,if_pos (by omega)]
      ·rw [if_pos (by simpa using hjo)]
       have:j-off<len:=by omega
       simp [this,VRel,List.getD]
     ·obtain ⟨v,hv1,hv2⟩:=hg j hj
      refine ⟨v,?_,?_⟩
      ·rw [if_neg (by simp only [List.length_replicate]; omega)]; exact hv1
      ·rw [if_neg (by simpa using hjo)]; exact hv2)
    refine fin _ _ ?_ e1 e2
    have hlen : ∃ m,len=m+1:=⟨len-1,by omega⟩
    obtain ⟨m,rfl⟩:=hlen
    have hzc:(Builtin.zeroCells (Value.int .i64 0).cells (m+1)).toList=List.replicate (m+1) (.int .i64 0):=zeroCells_one
    have h0:(#[a.eval y]:Array Value)[0]? = some (a.eval y):=rfl
    rw [hx] at h0 ⊢
    simp only [Builtin.clear_,hat,h0,Sem.run_bind,run_underlying hund,Result.andThen_ok,hzero,hzc,r1,Sem.run_pure]
   ·cases hv
theorem row_new (hw:HRel ρ H w) {n:Nm} (hn : ¬ H.D n) (ht:n.t=0→n.i≤H.k) {l:List AV} {cells:Array Value} (T:TypeId) (hrel:VRels ρ H.D l cells.toList) :
  HRel (fun m=>if m=n then ⟨w.heap.size,cells.size⟩ else ρ m) (H.set n (.row l.length (cs l))) { w with heap:=w.heap.push (.cells cells T (0,0)) } ∧
   Ext ρ (fun m=>if m=n then ⟨w.heap.size,cells.size⟩ else ρ m) H (H.set n (.row l.length (cs l))) w { w with heap:=w.heap.push (.cells cells T (0,0)) }:=by
 have hl:=hrel.length
 simp at hl
 refine hw.new hn ht ?_ (by simp)
 refine ⟨cells,T,by simp,by simp,by omega,fun i hi=>?_⟩
 obtain ⟨v,h1,h2⟩:=hrel.get i _ (List.getElem?_eq_getElem hi)
 refine ⟨v,by simpa using h1,?_⟩
 have h3:cs l i=l[i]:=by simp [cs,hi]
 rw [h3]
 exact h2.mono fun m hm=>⟨AH.set_D_mono hm,if_neg (fun (he:m=n)=>hn (he ▸ hm))⟩
theorem ptr_new {n:Nm} {o':AO} {L:Loc}:VRel (fun m=>if m=n then L else ρ m) (H.set n o').D (.ptr n 0) (.pointer (some ⟨L.b,0,none⟩)):=by
 simp only [VRel,if_true]
 exact ⟨AH.D_of (AH.set_same H n o'),trivial⟩
theorem zeroT_run {T:TypeId} {zero:List AV} {D:Nm→Prop} (hz:zeroT P T zero=true) : ∃ z,(∀ w,(zeroValue T).run P w=.ok z w)∧VRels ρ D zero z.cells.toList:=by
 unfold zeroT at hz
 cases hi:P.info? T with
 | none=>simp [hi] at hz
 | some i =>
 cases hzz:i.zero with
 | none=>simp [hi,hzz] at hz
 | some z =>
 simp only [hi,hzz] at hz
 exact ⟨z,fun w=>by simp [zeroValue,typeInfo,hi,hzz],constsOk_rel hz⟩
theorem e_alc {q:Nat} {zero:List AV} (hw:HRel ρ H w) (hn : ¬ H.D (nm q)) (hk:(nm q).t=0→(nm q).i≤H.k) (hc:chkEff P o.op (.alc q zero)=true) (hv:effV nm H t (.alc q zero)=some (v,H')):Effs P ρ H w a o v H':=by
 obtain ⟨dst,op,ty,pos,aft,g⟩:=o
 cases op <;> simp only [chkEff,Bool.false_eq_true] at hc
 rename_i T
 simp only [effV,Option.some.injEq,Prod.mk.injEq] at hv
 obtain ⟨rfl,rfl⟩:=hv
 obtain ⟨z,hz,hr⟩:=zeroT_run (P:=P) (ρ:=ρ) (D:=H.D) hc
 obtain ⟨e1,e2⟩:=row_new hw hn hk T hr
 exact ⟨_,_,_,_,by simp [execOp,Instr.alloc,hz,newVar,newRow,newObj,Sem.run],.inl rfl,ptr_new,e1,e2⟩
theorem e_box {q:Nat} {x:X} (hw:HRel ρ H w) (ht:TRel ρ H.D t a) (hn : ¬ H.D (nm q)) (hk:(nm q).t=0→(nm q).i≤H.k) (hc:chkEff P o.op (.box q x)=true) (hv:effV nm H t (.box q x)=some (v,H')):Effs P ρ H w a o v H':=by
 obtain ⟨dst,op,ty,pos,aft,g⟩:=o
 cases op <;> simp only [chkEff,Bool.false_eq_true] at hc
 rename_i T y
 have hx:=chkX_rel ht hc
 simp only [effV] at hv
 split at hv
 ·rename_i hsc
  simp only [Option.some.injEq,Prod.mk.injEq] at hv
  obtain ⟨rfl,rfl⟩:=hv
  obtain ⟨e1,e2⟩:=row_new hw hn hk T (hx.cells hsc)
  exact ⟨_,_,_,_,by simp [execOp,Instr.box,newVar,newRow,newObj,Sem.run],.inl rfl,ptr_new,e1,e2⟩
 ·cases hv
theorem e_mkm {q r:Nat} (hw:HRel ρ H w) (hn : ¬ H.D (nm q)) (hk:(nm q).t=0→(nm q).i≤H.k) (hc:chkEff P o.op (.mkm q r)=true) (hv:effV nm H t (.mkm q r)=some (v,H')):Effs P ρ H w a o v H':=by
 obtain ⟨dst,op,ty,pos,aft,g⟩:=o
 cases op <;> simp only [chkEff,Bool.false_eq_true] at hc
 rename_i T rv
 cases rv <;> simp only [Bool.false_eq_true] at hc
 simp only [effV,Option.some.injEq,Prod.mk.injEq] at hv
 obtain ⟨rfl,rfl⟩:=hv
 obtain ⟨e1,e2⟩:=hw.new (sz:=0) hn hk (o:=.mp r fun _=>none) (B:=.map #[] 0) ⟨#[],0,by simp,⟨by simp,by simp,by simp,by simp,by simp⟩⟩ (by simp)
 refine ⟨.value (.map (some w.heap.size)),_,_,_,by simp [execOp,Instr.makeMap,newObj,Sem.run],.inl rfl,?_,e1,e2⟩
 simp only [VRel,if_true]
 exact ⟨AH.D_of (AH.set_same H _ _),trivial⟩
end
end Go.Ab

namespace Go.Ab
open Go
section
variable {P : Program} {ρ : Nm → Loc} {H H' : AH} {w : World} {t : Fr} {a : Act} {o : Oper} {v : AV} {nm : Nat → Nm}
theorem split_at {α:Type} {l:List α} {i:Nat} {e:α} (h:l[i]? = some e) : ∃ l1 l2,l=l1++e::l2∧l1.length=i:=by
 obtain ⟨hlt,rfl⟩:=List.getElem?_eq_some_iff.1 h
 exact ⟨l.take i,l.drop (i+1),by rw [List.getElem_cons_drop,List.take_append_drop],by simp; omega⟩
theorem sameBits_key {key:List Int} {u:Value} (h:rkey key=some u) (d:Nat):Instr.sameBits (d+2) u u=true:=by
 unfold rkey at h
 split at h
 ·cases h; simp [Instr.sameBits]
 ·cases h; simp [Instr.sameBits]
 ·cases h
theorem keyStays {key:List Int} {u:Value} (h:rkey key=some u) (w:World):(Instr.keyThatStays u u).run P w=.ok u w:=by
 have:Instr.sameBits 10000 u u=true:=sameBits_key h 9998
 simp [Instr.keyThatStays,this]
theorem MRel.put_old {D:Nm→Prop} {r:Nat} {m:List Int→Option AV} {es:Array MapEntry} {clock i:Nat} {e:MapEntry} {key:List Int} {u val:Value} {x:AV}
  (h:MRel ρ D r m es clock) (hi:es.toList[i]? = some e) (hu:e.key=u) (hk:rkey key=some u) (hl:key.length=r) (hx:VRel ρ D x val) :
  MRel ρ D r (mset m key (some x)) (es.modify i fun e=>{ e with key:=u,val:=val }) clock:=by
 obtain ⟨l1,l2,hs,hl1⟩:=split_at hi
 have hmod:(es.modify i fun e=>{ e with key:=u,val:=val }).toList=l1++{ e with key:=u,val:=val }::l2:=by
  rw [Array.toList_modify,hs]
  subst hl1
  rw [List.modify_eq_take_cons_drop (by simp)]
  simp
 have hinj:=h.inj; rw [hs] at hinj
 have hne : ∀ e'∈l1++l2,e'.key≠u:=by
  rw [List.pairwise_append,List.pairwise_cons] at hinj
  intro e' he'
  rcases List.mem_append.1 he' with h' | h'
  ·exact hu ▸ hinj.2.2 e' h' e (by simp)
  ·exact fun hh=>hinj.2.1.1 e' h' (by rw [hu,hh])
 refine ⟨?_,?_,?_,?_,?_⟩
 ·intro e' he'
  rw [hmod] at he'
  rcases List.mem_append.1 he' with h' | h'
  ·obtain ⟨k',v',q1,q2,q3,q4⟩:=h.fwd e' (by rw [hs]; simp [h'])
   refine ⟨k',v',q1,q2,?_,q4⟩
   have:k'≠key:=fun hh=>hne e' (by simp [h']) (by subst hh; rw [hk] at q2; exact (Option.some.inj q2).symm)
   simp [mset,this,q3]
  ·rcases List.mem_cons.1 h' with rfl | h'
   ·exact ⟨key,x,hl,hk,by simp [mset],hx⟩
   ·obtain ⟨k',v',q1,q2,q3,q4⟩:=h.fwd e' (by rw [hs]; simp [h'])
    refine ⟨k',v',q1,q2,?_,q4⟩
    have:k'≠key:=fun hh=>hne e' (by simp [h']) (by subst hh; rw [hk] at q2; exact (Option.some.inj q2).symm)
    simp [mset,this,q3]
 ·intro k' v' hm
  rw [hmod]
  by_cases hkk:k'=key
  ·subst hkk
   exact ⟨{ e with key:=u,val:=val },by simp,hk⟩
  ·simp [mset,hkk] at hm
   obtain ⟨e',he',hke⟩:=h.bwd k' v' hm
   rw [hs] at he'
   rcases List.mem_append.1 he' with h' | h'
   ·exact ⟨e',by simp [h'],hke⟩
   ·rcases List.mem_cons.1 h' with rfl | h'
    ·rw [hu] at hke; exact absurd (rkey_inj hke hk) hkk
    ·exact ⟨e',by simp [h'],hke⟩
 ·rw [hmod]
  rw [List.pairwise_append,List.pairwise_cons] at hinj ⊢
  exact ⟨hinj.1,⟨fun e' he'=>hu ▸ hinj.2.1.1 e' he',hinj.2.1.2⟩,fun e1 h1 e2 h2=>by
   rcases List.mem_cons.1 h2 with rfl | h2
   ·exact hu ▸ hinj.2.2 e1 h1 e (by simp)
   ·exact hinj.2.2 e1 h1 e2 (by simp [h2])⟩
 ·intro e' he'
  rw [hmod] at he'
  rcases List.mem_append.1 he' with h' | h'
  ·exact h.born e' (by rw [hs]; simp [h'])
  ·rcases List.mem_cons.1 h' with rfl | h'
   ·exact h.born e (by rw [hs]; simp)
   ·exact h.born e' (by rw [hs]; simp [h'])
 ·rw [hmod]
  have hb:=h.binj; rw [hs] at hb
  rw [List.pairwise_append,List.pairwise_cons] at hb ⊢
  exact ⟨hb.1,⟨fun e' he'=>hb.2.1.1 e' he',hb.2.1.2⟩,fun e1 h1 e2 h2=>by
   rcases List.mem_cons.1 h2 with rfl | h2
   ·exact hb.2.2 e1 h1 e (by simp)
   ·exact hb.2.2 e1 h1 e2 (by simp [h2])⟩
theorem MRel.put_new {D:Nm→Prop} {r:Nat} {m:List Int→Option AV} {es:Array MapEntry} {clock:Nat} {key:List Int} {u val:Value} {x:AV}
  (h:MRel ρ D r m es clock) (hu : ∀ e∈es.toList,e.key≠u) (hk:rkey key=some u) (hl:key.length=r) (hx:VRel ρ D x val) :
  MRel ρ D r (mset m key (some x)) (es.push { key:=u,val:=val,born:=clock }) (clock+1):=by
 refine ⟨?_,?_,?_,?_,?_⟩
 ·intro e' he'
  simp only [Array.toList_push,List.mem_append,List.mem_singleton] at he'
  rcases he' with h' | rfl
  ·obtain ⟨k',v',q1,q2,q3,q4⟩:=h.fwd e' h'
   refine ⟨k',v',q1,q2,?_,q4⟩
   have:k'≠key:=fun hh=>hu e' h' (by subst hh; rw [hk] at q2; exact (Option.some.inj q2).symm)
   simp [mset,this,q3]
  ·exact ⟨key,x,hl,hk,by simp [mset],hx⟩
 ·intro k' v' hm
  simp only [Array.toList_push,List.mem_append,List.mem_singleton]
  by_cases hkk:k'=key
  ·subst hkk; exact ⟨_,.inr rfl,hk⟩
  ·simp [mset,hkk] at hm
   obtain ⟨e',he',hke⟩:=h.bwd k' v' hm
   exact ⟨e',.inl he',hke⟩
 ·simp only [Array.toList_push]
  rw [List.pairwise_append]
  exact ⟨h.inj,by simp,fun e1 h1 e2 h2=>by simp at h2; subst h2; exact hu e1 h1⟩
 ·intro e' he'
  simp only [Array.toList_push,List.mem_append,List.mem_singleton] at he'
  rcases he' with h' | rfl
  ·exact Nat.lt_succ_of_lt (h.born e' h')
  ·exact Nat.lt_succ_self _
 ·simp only [Array.toList_push]
  rw [List.pairwise_append]
  exact ⟨h.binj,by simp,fun e1 h1 e2 h2=>by simp at h2; subst h2; exact Nat.ne_of_lt (h.born e1 h1)⟩
theorem MRel.drop_old {D:Nm→Prop} {r:Nat} {m:List Int→Option AV} {es:Array MapEntry} {clock i:Nat} {e:MapEntry} {key:List Int} {u:Value}
  (h:MRel ρ D r m es clock) (hi:es.toList[i]? = some e) (hu:e.key=u) (hk:rkey key=some u) :
  MRel ρ D r (mset m key none) (es.eraseIdxIfInBounds i) clock:=by
 obtain ⟨l1,l2,hs,hl1⟩:=split_at hi
 have hmod:(es.eraseIdxIfInBounds i).toList=l1++l2:=by
  have hlt:i<es.size:=by
   have:=congrArg List.length hs
   simp at this; omega
  rw [Array.eraseIdxIfInBounds_eq,dif_pos hlt,Array.toList_eraseIdx,hs]
  subst hl1
  simp [List.eraseIdx_append_of_length_le]
 have hinj:=h.inj; rw [hs] at hinj
 have hne : ∀ e'∈l1++l2,e'.key≠u:=by
  rw [List.pairwise_append,List.pairwise_cons] at hinj
  intro e' he'
  rcases List.mem_append.1 he' with h' | h'
  ·exact hu ▸ hinj.2.2 e' h' e (by simp)
  ·exact fun hh=>hinj.2.1.1 e' h' (by rw [hu,hh])
 have hsub:(l1++l2).Sublist es.toList:=by rw [hs]; exact List.Sublist.append_left (List.sublist_cons_self e l2) l1
 refine ⟨?_,?_,?_,?_,?_⟩
 ·intro e' he'
  rw [hmod] at he'
  obtain ⟨k',v',q1,q2,q3,q4⟩:=h.fwd e' (hsub.subset he')
  refine ⟨k',v',q1,q2,?_,q4⟩
  have:k'≠key:=fun hh=>hne e' he' (by subst hh; rw [hk] at q2; exact (Option.some.inj q2).symm)
  simp [mset,this,q3]
 ·intro k' v' hm
  rw [hmod]
  by_cases hkk:k'=key
  ·subst hkk; simp [mset] at hm
  ·simp [mset,hkk] at hm
   obtain ⟨e',he',hke⟩:=h.bwd k' v' hm
   rw [hs] at he'
   refine ⟨e',?_,hke⟩
   rcases List.mem_append.1 he' with h' | h'
   ·simp [h']
   ·rcases List.mem_cons.1 h' with rfl | h'
    ·rw [hu] at hke; exact absurd (rkey_inj hke hk) hkk
    ·simp [h']
 ·rw [hmod]; exact h.inj.sublist hsub
 ·intro e' he'; rw [hmod] at he'; exact h.born e' (hsub.subset he')
 ·rw [hmod]; exact h.binj.sublist hsub
theorem MRel.drop_none {D:Nm→Prop} {r:Nat} {m:List Int→Option AV} {es:Array MapEntry} {clock:Nat} {key:List Int}
  (h:MRel ρ D r m es clock) (hm:m key=none):MRel ρ D r (mset m key none) es clock:=by
 have:mset m key none=m:=by funext k; simp only [mset]; split <;> simp_all
 rw [this]; exact h
theorem MRel.mono {ρ':Nm→Loc} {D D':Nm→Prop} {r:Nat} {m:List Int→Option AV} {es:Array MapEntry} {clock:Nat} (h:MRel ρ D r m es clock) (hD : ∀ n,D n→D' n∧ρ' n=ρ n):MRel ρ' D' r m es clock :=
 ⟨fun e he=>by
  obtain ⟨key,v,q1,q2,q3,q4⟩:=h.fwd e he
  exact ⟨key,v,q1,q2,q3,q4.mono hD⟩,h.bwd,h.inj,h.born,h.binj⟩
theorem run_setObj_map {n:Nat} {es:Array MapEntry} {clock:Nat} {B:Obj} (h:w.heap[n]? = some (.map es clock)):(setObj n B).run P w=.ok () (World.setBlk w n B):=by
 simp [setObj,Sem.run,h,World.setBlk]
theorem mapUpdate_run {D:Nm→Prop} {T kt et:TypeId} {r:Nat} {n:Nat} {m:List Int→Option AV} {es:Array MapEntry} {clock:Nat} {key:List Int} {u val:Value} (hu:P.underlying T=some (.map kt et)) (hkt:keyT P kt r=true)
  (hb:w.heap[n]? = some (.map es clock)) (h:MRel ρ D r m es clock) (hk:rkey key=some u) (hl:key.length=r) :
  (∃ i e,es.toList[i]? = some e∧e.key=u∧(∃ y,m key=some y)∧(Instr.mapUpdate T (.map (some n)) u val).run P w=.ok () (World.setBlk w n (.map (es.modify i fun e=>{ e with key:=u,val:=val }) clock))) ∨
  ((∀ e∈es.toList,e.key≠u)∧m key=none∧(Instr.mapUpdate T (.map (some n)) u val).run P w=.ok () (World.setBlk w n (.map (es.push { key:=u,val:=val,born:=clock }) (clock+1)))):=by
 have hck:(Instr.checkKey false 10000 kt u).run P w=.ok () w:=checkKey_run hkt hk hl false 9998 w
 rcases find_known (P:=P) hkt h hk hl w with ⟨i,e,v',h1,h2,h3,h4,h5⟩ | ⟨h1,h2,h3⟩
 ·refine .inl ⟨i,e,h1,h2,⟨v',h3⟩,?_⟩
  have hkey:((es[i]?).map (·.key)).getD u=u:=by
   have:es[i]? = some e:=by simpa using h1
   simp [this,h2]
  simp only [Instr.mapUpdate,Sem.run_bind,run_underlying hu,Result.andThen_ok,getObj_map hb,hck,h5,hkey,keyStays hk,run_setObj_map hb]
 ·refine .inr ⟨h1,h2,?_⟩
  simp only [Instr.mapUpdate,Sem.run_bind,run_underlying hu,Result.andThen_ok,getObj_map hb,hck,h3,run_setObj_map hb]
theorem e_mupd {r:Nat} {mx kx vx:X} (hw:HRel ρ H w) (ht:TRel ρ H.D t a) (hc:chkEff P o.op (.mupd r mx kx vx)=true) (hv:effV nm H t (.mupd r mx kx vx)=some (v,H')):Effs P ρ H w a o v H':=by
 obtain ⟨dst,op,ty,pos,aft,g⟩:=o
 have main : ∀ (T:TypeId) (y z u:Operand),(mapT P T r).isSome=true→chkX mx y=true→chkX kx z=true→chkX vx u=true →
   ∃ w' ρ',(Instr.mapUpdate T (a.eval y) (a.eval z) (a.eval u)).run P w=.ok () w'∧v=.any∧HRel ρ' H' w'∧Ext ρ ρ' H H' w w':=by
  intro T y z u hT hy hz hu
  have hy:=chkX_rel ht hy
  have hz:=chkX_rel ht hz
  have hu:=chkX_rel ht hu
  obtain ⟨⟨kt,et⟩,hmt⟩:=Option.isSome_iff_exists.1 hT
  obtain ⟨hund,hkt⟩:=mapT_run hmt
  simp only [effV] at hv
  cases hkey:keyOf r (ev t kx) with
  | none=>cases hev:ev t mx <;> simp [hev,hkey] at hv
  | some key =>
  obtain ⟨hrk,hlen⟩:=keyOf_rel hkey hz
  cases hev:ev t mx <;> simp [hev,hkey] at hv
  rename_i n
  rw [hev] at hy; simp only [VRel] at hy
  rw [hy.2]
  cases hf:H.f n with
  | none=>simp [hf] at hv
  | some o1 =>
  have hDn:=AH.D_of hf
  have hDD : ∀ o',(H.set n o').D=H.D:=fun o'=>AH.set_D hDn
  cases o1 <;> simp [hf] at hv
  case mp r' mp =>
   obtain ⟨rfl,rfl,rfl⟩:=hv
   obtain ⟨es,clock,hb,hrel⟩:=hw.obj n _ hf
   rcases mapUpdate_run (val:=a.eval u) hund hkt hb hrel hrk hlen with ⟨i,e,h1,h2,_,h3⟩ | ⟨h1,h2,h3⟩
   ·obtain ⟨e1,e2⟩:=hw.turn (w':=World.setBlk w (ρ n).b (.map (es.modify i fun e=>{ e with key:=a.eval z,val:=a.eval u }) clock)) (o':=.mp r' (mset mp key (some (ev t vx)))) hf rfl (by simp) (by simp) (setBlk_size ..) (fun b hb'=>setBlk_ne _ hb')
     ⟨_,_,setBlk_same hb,by rw [hDD]; exact hrel.put_old h1 h2 hrk hlen hu⟩
    exact ⟨_,_,h3,rfl,e1,e2⟩
   ·obtain ⟨e1,e2⟩:=hw.turn (w':=World.setBlk w (ρ n).b (.map (es.push { key:=a.eval z,val:=a.eval u,born:=clock }) (clock+1))) (o':=.mp r' (mset mp key (some (ev t vx)))) hf rfl (by simp) (by simp) (setBlk_size ..) (fun b hb'=>setBlk_ne _ hb')
     ⟨_,_,setBlk_same hb,by rw [hDD]; exact hrel.put_new h1 hrk hlen hu⟩
    exact ⟨_,_,h3,rfl,e1,e2⟩
  case mpi r' mp it seen c =>
   obtain ⟨rfl,hv⟩:=hv
   cases hmk:mp key with
   | none=>simp [hmk] at hv
   | some y0 =>
   simp [hmk] at hv
   obtain ⟨rfl,rfl⟩:=hv
   obtain ⟨es,clock,sb,hb,hrel,q1,q2,q3,q4,q5,q6⟩:=hw.obj n _ hf
   rcases mapUpdate_run (val:=a.eval u) hund hkt hb hrel hrk hlen with ⟨i,e,h1,h2,_,h3⟩ | ⟨h1,h2,h3⟩
   ·have hne:(ρ it).b≠(ρ n).b:=fun he=>by
     have:=hw.inj it n _ _ q1 hf rfl rfl he
     subst this; rw [hf] at q1; cases q1
    have hitn:it≠n:=fun he=>hne (by rw [he])
    obtain ⟨l1,l2,hs,hl1⟩:=split_at h1
    have hmod:(es.modify i fun e=>{ e with key:=a.eval z,val:=a.eval u }).toList=l1++{ e with key:=a.eval z,val:=a.eval u }::l2:=by
     rw [Array.toList_modify,hs]
     subst hl1
     rw [List.modify_eq_take_cons_drop (by simp)]
     simp
    have hmem : ∀ e'∈l1++{ e with key:=a.eval z,val:=a.eval u }::l2,∃ e''∈es.toList,e''.key=e'.key∧e''.born=e'.born:=by
     intro e' he'
     rw [hs]
     rcases List.mem_append.1 he' with h' | h'
     ·exact ⟨e',by simp [h'],rfl,rfl⟩
     ·rcases List.mem_cons.1 h' with rfl | h'
      ·exact ⟨e,by simp,h2,rfl⟩
      ·exact ⟨e',by simp [h'],rfl,rfl⟩
    obtain ⟨e1,e2⟩:=hw.turn (w':=World.setBlk w (ρ n).b (.map (es.modify i fun e=>{ e with key:=a.eval z,val:=a.eval u }) clock)) (o':=.mpi r' (mset mp key (some (ev t vx))) it seen c) hf rfl (by simp) (by simp) (setBlk_size ..) (fun b hb'=>setBlk_ne _ hb')
     ⟨_,_,sb,setBlk_same hb,by rw [hDD]; exact hrel.put_old h1 h2 hrk hlen hu,by rw [AH.set_ne H _ hitn]; exact q1,by rw [setBlk_ne _ hne]; exact q2,by
      rw [hmod]
      intro e' he' key' hk'
      obtain ⟨e'',he'',hk1,hk2⟩:=hmem e' he'
      rw [← hk2]; exact q3 e'' he'' key' (by rw [hk1]; exact hk'),by
      rw [hmod]
      have:(es.toList.filter fun e => !sb.contains e.born).length=((l1++{ e with key:=a.eval z,val:=a.eval u }::l2).filter fun e => !sb.contains e.born).length:=by
       rw [hs,List.filter_append,List.filter_append,List.filter_cons,List.filter_cons]
       split <;> simp
      omega,by
      rw [hmod]
      intro key' rest hse e' he' hk'
      obtain ⟨e'',he'',hk1,hk2⟩:=hmem e' he'
      rw [← hk2]; exact q5 key' rest hse e'' he'' (by rw [hk1]; exact hk'),q6⟩
    exact ⟨_,_,h3,rfl,e1,e2⟩
   ·rw [h2] at hmk; cases hmk
 cases op <;> simp only [chkEff,Bool.false_eq_true] at hc
 all_goals
  rename_i T y z u
  simp only [Bool.and_eq_true] at hc
  obtain ⟨w',ρ',h1,rfl,h3,h4⟩:=main T _ _ _ hc.1.1.1 hc.1.1.2 hc.1.2 hc.2
  exact ⟨.skip,undef,w',ρ',by simp only [execOp,Sem.run_bind,h1,Result.andThen_ok,Sem.run_pure],.inr ⟨rfl,rfl⟩,by simp [VRel],h3,h4⟩
theorem e_del {r:Nat} {mx kx:X} (hw:HRel ρ H w) (ht:TRel ρ H.D t a) (hc:chkEff P o.op (.del r mx kx)=true) (hv:effV nm H t (.del r mx kx)=some (v,H')):Effs P ρ H w a o v H':=by
 obtain ⟨dst,op,ty,pos,aft,g⟩:=o
 cases op <;> simp only [chkEff,Bool.false_eq_true] at hc
 rename_i c
 obtain ⟨callee,args,ats⟩:=c
 cases callee <;> (try simp only [Bool.false_eq_true] at hc)
 rename_i b
 cases b <;> (try simp only [Bool.false_eq_true] at hc)
 cases hat:ats[0]? with
 | none=>simp [hat] at hc
 | some T =>
 simp only [hat] at hc
 obtain ⟨y,z,hargs⟩ : ∃ y z,args = #[y,z]:=by
  obtain ⟨l⟩:=args
  match l,hc with
  | [y,z],_=>exact ⟨y,z,rfl⟩
 subst hargs
 simp only [Bool.and_eq_true] at hc
 have hy:=chkX_rel ht hc.1.2
 have hz:=chkX_rel ht hc.2
 obtain ⟨⟨kt,et⟩,hmt⟩:=Option.isSome_iff_exists.1 hc.1.1
 obtain ⟨hund,hkt⟩:=mapT_run hmt
 have hrun : ∀ w',(Builtin.delete_ ats ty #[a.eval y,a.eval z]).run P w=.ok (.tuple #[]) w' →
   (execOp a.eval { dst,op:=.call { callee:=.builtin .delete,args := #[y,z],argTypes:=ats },type:=ty,pos,after:=aft,guard:=g }).run P w=.ok (.value (.tuple #[])) w':=by
  intro w' h
  simp [execOp,resolve,invoke,builtin,h]
 have any : ∀ (ρ':Nm→Loc) (w':World),(Builtin.delete_ ats ty #[a.eval y,a.eval z]).run P w=.ok (.tuple #[]) w'→v=.any→HRel ρ' H' w'→Ext ρ ρ' H H' w w'→Effs P ρ H w a { dst,op:=.call { callee:=.builtin .delete,args := #[y,z],argTypes:=ats },type:=ty,pos,after:=aft,guard:=g } v H':=by
  intro ρ' w' h1 h2 h3 h4
  subst h2
  exact ⟨_,.tuple #[],w',ρ',hrun w' h1,.inl rfl,by simp [VRel],h3,h4⟩
 simp only [effV] at hv
 cases hkey:keyOf r (ev t kx) with
 | none=>cases hev:ev t mx <;> simp [hev,hkey] at hv
 | some key =>
 obtain ⟨hrk,hlen⟩:=keyOf_rel hkey hz
 have hck:=fun b w=>checkKey_run (P:=P) hkt hrk hlen b 9998 w
 cases hev:ev t mx <;> simp [hev,hkey] at hv <;> rw [hev] at hy <;> simp only [VRel] at hy
 case nilm =>
  obtain ⟨rfl,rfl⟩:=hv
  refine any ρ w ?_ rfl hw (Ext.refl _ _ _)
  simp [Builtin.delete_,hat,run_underlying hund,hy,hck]
 case map n =>
  cases hf:H.f n with
  | none=>simp [hf] at hv
  | some o1 =>
  have hDn:=AH.D_of hf
  have hDD : ∀ o',(H.set n o').D=H.D:=fun o'=>AH.set_D hDn
  have del : ∀ {es:Array MapEntry} {clock:Nat},w.heap[(ρ n).b]? = some (.map es clock) → ∀ i e,(Instr.findKey kt (a.eval z) es.toList).run P w=.ok (some (i,e)) w →
    (Builtin.delete_ ats ty #[a.eval y,a.eval z]).run P w=.ok (.tuple #[]) (World.setBlk w (ρ n).b (.map (es.eraseIdxIfInBounds i) clock)):=by
   intro es clock hb i e hfk
   simp [Builtin.delete_,hat,run_underlying hund,hy.2,hck,getObj_map hb,hfk,run_setObj_map hb]
  have del0 : ∀ {es:Array MapEntry} {clock:Nat},w.heap[(ρ n).b]? = some (.map es clock)→(Instr.findKey kt (a.eval z) es.toList).run P w=.ok none w →
    (Builtin.delete_ ats ty #[a.eval y,a.eval z]).run P w=.ok (.tuple #[]) (World.setBlk w (ρ n).b (.map es clock)):=by
   intro es clock hb hfk
   simp [Builtin.delete_,hat,run_underlying hund,hy.2,hck,getObj_map hb,hfk,run_setObj_map hb]
  cases o1 <;> simp [hf] at hv
  case mp r' mp =>
   obtain ⟨rfl,rfl,rfl⟩:=hv
   obtain ⟨es,clock,hb,hrel⟩:=hw.obj n _ hf
   rcases find_known (P:=P) hkt hrel hrk hlen w with ⟨i,e,v',h1,h2,h3,h4,h5⟩ | ⟨h1,h2,h3⟩
   ·obtain ⟨e1,e2⟩:=hw.turn (w':=World.setBlk w (ρ n).b (.map (es.eraseIdxIfInBounds i) clock)) (o':=.mp r' (mset mp key none)) hf rfl (by simp) (by simp) (setBlk_size ..) (fun b hb'=>setBlk_ne _ hb')
     ⟨_,_,setBlk_same hb,by rw [hDD]; exact hrel.drop_old h1 h2 hrk⟩
    exact any _ _ (del hb i _ h5) rfl e1 e2
   ·obtain ⟨e1,e2⟩:=hw.turn (w':=World.setBlk w (ρ n).b (.map es clock)) (o':=.mp r' (mset mp key none)) hf rfl (by simp) (by simp) (setBlk_size ..) (fun b hb'=>setBlk_ne _ hb')
     ⟨_,_,setBlk_same hb,by rw [hDD]; exact hrel.drop_none h2⟩
    exact any _ _ (del0 hb h3) rfl e1 e2
  case mpi r' mp it seen c =>
   obtain ⟨rfl,rfl,rfl⟩:=hv
   obtain ⟨es,clock,sb,hb,hrel,q1,q2,q3,q4,q5,q6⟩:=hw.obj n _ hf
   have hne:(ρ it).b≠(ρ n).b:=fun he=>by
    have:=hw.inj it n _ _ q1 hf rfl rfl he
    subst this; rw [hf] at q1; cases q1
   have hitn:it≠n:=fun he=>hne (by rw [he])
   rcases find_known (P:=P) hkt hrel hrk hlen w with ⟨i,e,v',h1,h2,h3,h4,h5⟩ | ⟨h1,h2,h3⟩
   ·obtain ⟨l1,l2,hs,hl1⟩:=split_at h1
    have hmod:(es.eraseIdxIfInBounds i).toList=l1++l2:=by
     have hlt:i<es.size:=by
      have:=congrArg List.length hs
      simp at this; omega
     rw [Array.eraseIdxIfInBounds_eq,dif_pos hlt,Array.toList_eraseIdx,hs]
     subst hl1
     simp [List.eraseIdx_append_of_length_le]
    have hsub:(l1++l2).Sublist es.toList:=by rw [hs]; exact List.Sublist.append_left (List.sublist_cons_self e l2) l1
    obtain ⟨e1,e2⟩:=hw.turn (w':=World.setBlk w (ρ n).b (.map (es.eraseIdxIfInBounds i) clock)) (o':=.mpi r' (mset mp key none) it seen c) hf rfl (by simp) (by simp) (setBlk_size ..) (fun b hb'=>setBlk_ne _ hb')
     ⟨_,_,sb,setBlk_same hb,by rw [hDD]; exact hrel.drop_old h1 h2 hrk,by rw [AH.set_ne H _ hitn]; exact q1,by rw [setBlk_ne _ hne]; exact q2,by
      rw [hmod]; exact fun e' he'=>q3 e' (hsub.subset he'),by
      rw [hmod]; exact Nat.le_trans (hsub.filter _).length_le q4,by
      rw [hmod]; exact fun key' rest hse e' he'=>q5 key' rest hse e' (hsub.subset he'),q6⟩
    exact any _ _ (del hb i _ h5) rfl e1 e2
   ·obtain ⟨e1,e2⟩:=hw.turn (w':=World.setBlk w (ρ n).b (.map es clock)) (o':=.mpi r' (mset mp key none) it seen c) hf rfl (by simp) (by simp) (setBlk_size ..) (fun b hb'=>setBlk_ne _ hb')
     ⟨_,_,sb,setBlk_same hb,by rw [hDD]; exact hrel.drop_none h2,by rw [AH.set_ne H _ hitn]; exact q1,by rw [setBlk_ne _ hne]; exact q2,q3,q4,q5,q6⟩
    exact any _ _ (del0 hb h3) rfl e1 e2
theorem e_est {mx sx vx:X} (hw:HRel ρ H w) (ht:TRel ρ H.D t a) (hc:chkEff P o.op (.est mx sx vx)=true) (hv:effV nm H t (.est mx sx vx)=some (v,H')):Effs P ρ H w a o v H':=by
 obtain ⟨dst,op,ty,pos,aft,g⟩:=o
 cases op <;> simp only [chkEff,Bool.false_eq_true] at hc
 rename_i T y z u
 simp only [Bool.and_eq_true] at hc
 have hy:=chkX_rel ht hc.1.1
 have hz:=chkX_rel ht hc.1.2
 have hu:=chkX_rel ht hc.2
 simp only [effV] at hv
 cases hev:ev t mx <;> simp [hev] at hv
 rename_i n
 cases hes:ev t sx <;> simp [hes] at hv
 rename_i k s
 rw [hev] at hy; simp only [VRel] at hy
 rw [hes] at hz; simp only [VRel] at hz
 cases hf:H.f n with
 | none=>simp [hf] at hv
 | some o1 =>
 cases o1 <;> simp [hf] at hv
 rename_i r mp key b
 obtain ⟨rfl,rfl,rfl⟩:=hv
 obtain ⟨es,clock,hb,hrel,e,he,hke,hbe⟩:=hw.obj n _ hf
 have hDn:=AH.D_of hf
 have hDD : ∀ o',(H.set n o').D=H.D:=fun o'=>AH.set_D hDn
 obtain ⟨i,hi,hfi⟩ : ∃ i,es.toList[i]? = some e∧es.findIdx? (fun e'=>(e'.born:Int)==s)=some i:=by
  obtain ⟨i,hlt,hi⟩:=List.getElem_of_mem he
  refine ⟨i,by rw [List.getElem?_eq_getElem hlt,hi],?_⟩
  rw [Array.findIdx?_eq_some_iff_getElem]
  have hi':es[i]'(by simpa using hlt)=e:=by simpa using hi
  refine ⟨by simpa using hlt,by rw [hi']; simp [hbe],fun j hj=>?_⟩
  have hp:=List.pairwise_iff_getElem.1 hrel.binj j i (by omega) hlt hj
  rw [hi] at hp
  simp only [Array.getElem_toList] at hp
  simp only [Bool.not_eq_true,beq_eq_false_iff_ne,ne_eq]
  intro hh
  apply hp
  omega
 have hl:key.length=r:=by
  obtain ⟨k',v',q1,q2,_⟩:=hrel.fwd e he
  rw [rkey_inj hke q2]; exact q1
 have hmod:(es.modify i fun e'=>{ e' with val:=a.eval u })=es.modify i fun e'=>{ e' with key:=e.key,val:=a.eval u }:=by
  apply Array.ext_getElem?
  intro j
  rw [Array.getElem?_modify,Array.getElem?_modify]
  split
  ·rename_i hij
   subst hij
   have:es[i]? = some e:=by simpa using hi
   rw [this]; rfl
  ·rfl
 obtain ⟨e1,e2⟩:=hw.turn (w':=World.setBlk w (ρ n).b (.map (es.modify i fun e'=>{ e' with key:=e.key,val:=a.eval u }) clock)) (o':=.mp r (mset mp key (some (ev t vx)))) hf rfl (by simp) (by simp) (setBlk_size ..) (fun b hb'=>setBlk_ne _ hb')
  ⟨_,_,setBlk_same hb,by rw [hDD]; exact hrel.put_old hi rfl hke hl hu⟩
 refine ⟨.skip,undef,_,_,?_,.inr ⟨rfl,rfl⟩,by simp [VRel],e1,e2⟩
 simp only [execOp,Instr.entryStore,hy.2,Sem.run_bind,getObj_map hb,Result.andThen_ok,hz,asInt,asIntOf,Sem.run_pure,hfi,run_setObj_map hb,hmod]
theorem e_acas {x ox nx:X} (hw:HRel ρ H w) (ht:TRel ρ H.D t a) (hc:chkEff P o.op (.acas x ox nx)=true) (hv:effV nm H t (.acas x ox nx)=some (v,H')):Effs P ρ H w a o v H':=by
 obtain ⟨dst,op,ty,pos,aft,g⟩:=o
 cases op <;> simp only [chkEff,Bool.false_eq_true] at hc
 rename_i cc
 obtain ⟨callee,args,ats⟩:=cc
 cases callee <;> (try simp only [Bool.false_eq_true] at hc)
 rename_i y
 cases y <;> (try simp only [Bool.false_eq_true] at hc)
 rename_i f
 simp only [Bool.and_eq_true] at hc
 obtain ⟨hf,hargs⟩:=hc
 cases hff:P.funcs[f]? with
 | none=>simp [hff] at hf
 | some fn =>
 simp only [hff,Bool.and_eq_true,beq_iff_eq] at hf
 obtain ⟨⟨hn,ho⟩,hb⟩:=hf
 obtain ⟨e1,e2⟩:=ext_cas hn ho
 have hrel:=chkXs_rel ht hargs
 obtain ⟨y1,y2,y3,rfl⟩ : ∃ y1 y2 y3,args = #[y1,y2,y3]:=by
  have hl:=chkXs_len hargs
  obtain ⟨l⟩:=args
  match l,hl with
  | [y1,y2,y3],_=>exact ⟨y1,y2,y3,rfl⟩
 simp only [evs,List.map_cons,List.map_nil,VRels,and_true] at hrel
 simp only [effV] at hv
 cases h1:ev t x <;> simp [h1] at hv
 rename_i m off
 cases h2:ev t ox <;> simp [h2] at hv
 rename_i kb A
 cases h3:ev t nx <;> simp [h3] at hv
 rename_i kc B
 rw [h1,h2,h3] at hrel
 simp only [VRel] at hrel
 obtain ⟨r1,r2,r3⟩:=hrel
 cases hm:H.f m with
 | none=>simp [hm] at hv
 | some o1 =>
 cases o1 <;> simp [hm] at hv
 rename_i c g0
 obtain ⟨hlt,hv⟩:=hv
 cases hg0:g0 off <;> simp [hg0] at hv
 rename_i kv V
 cases kv <;> simp at hv
 obtain ⟨cells,CT,hbk,hs,hcl,hg⟩:=hw.obj m _ hm
 obtain ⟨u,hu,hru⟩:=hg off hlt
 rw [hg0] at hru; simp only [VRel] at hru; subst hru
 have hcell:w.cell? ⟨(ρ m).b,off,none⟩=some (.int .i64 V):=by simp [World.cell?,hbk,hu]
 have hfz:w.frozen? ⟨(ρ m).b,off,none⟩=false:=by simp [World.frozen?,hbk]
 have hshape:w.shape? (ρ m).b=some (CT,cells.size):=by simp [World.shape?,hbk]
 have hcas : ∀ x y z,Extern.Atomic.casT (.int .i64) #[x,y,z]=(do
   let a ← asAddr x
   if ← Extern.Atomic.touchesFrozen a then unsupported (.unsafePointer "a write to bytes that a string shares")
   let eq ← match (Extern.Atomic.T.int .i64),← Extern.Atomic.read (.int .i64) a,y with
    | _,.int _ x,.int _ y=>pure (x==y)
    | .ptr,.pointer x,.pointer y=>samePointer x y
    | .int _,.pointer (some _),.int _ 0 | .int _,.int _ 0,.pointer (some _)=>pure false
    | .int _,.pointer (some _),_ | .int _,_,.pointer (some _)=>unsupported .addressObserved
    | _, _, _ => stuck "atomic.CompareAndSwap: old is no T"
   if eq then store a z .atomic
   pure (.bool eq)):=fun _ _ _=>rfl
 have harg:(#[y1,y2,y3]:Array Operand).map a.eval = #[.pointer (some ⟨(ρ m).b,off,none⟩),.int kb A,.int kc B]:=by
  rw [← r1.2,← r2,← r3]; simp
 have htf:(Extern.Atomic.touchesFrozen ⟨(ρ m).b,off,none⟩).run P w=.ok false w:=by
  simp [Extern.Atomic.touchesFrozen,viewAt,hshape,hfz]
 have hread:(Extern.Atomic.read (.int .i64) ⟨(ρ m).b,off,none⟩).run P w=.ok (.int .i64 V) w:=by
  simp [Extern.Atomic.read,hcell]
 by_cases hVA:V=A
 ·simp [hVA] at hv
  obtain ⟨rfl,rfl⟩:=hv
  obtain ⟨c',q1,q2,q3⟩:=run_storeCells (P:=P) [.int kc B] off 0 cells w hbk (by simp; omega) (by simp [Value.oneCell'])
  have hst:(store ⟨(ρ m).b,off,none⟩ (.int kc B) .atomic).run P w=.ok () (World.setBlk w (ρ m).b (.cells (cells.setIfInBounds off (.int kc B)) CT (0,0))):=by
   rw [run_store P w _ _ _ rfl]
   simp only [hcell,hfz,Bool.false_eq_true,if_false]
   rw [setCell_blk _ hbk]
  obtain ⟨x1,x2⟩:=row_turn hw hm hbk (c':=cells.setIfInBounds off (.int kc B)) (by simp) hs hcl (g':=upd g0 off (.int kc B)) (fun j hj=>by
   by_cases hjo:j=off
   ·subst hjo; exact ⟨.int kc B,by simp [show j<cells.size by omega],by simp [upd,VRel]⟩
   ·obtain ⟨v,hv1,hv2⟩:=hg j hj
    refine ⟨v,by rw [Array.getElem?_setIfInBounds_ne (Ne.symm hjo)]; exact hv1,?_⟩
    have:(j==off)=false:=by simpa using hjo
    simp [upd,this,hv2])
  refine ⟨_,.bool true,_,_,extern_run hff hb (by rw [hn]; decide) e1 e2 ?_,.inl rfl,by simp [VRel],x1,x2⟩
  rw [harg,hcas]
  subst hVA
  simp [asAddr,htf,hread,hst]
 ·simp [hVA] at hv
  obtain ⟨rfl,rfl⟩:=hv
  refine ⟨_,.bool false,_,_,extern_run hff hb (by rw [hn]; decide) e1 e2 ?_,.inl rfl,by simp [VRel],hw,Ext.refl _ _ _⟩
  rw [harg,hcas]
  simp [asAddr,htf,hread,hVA]
end
end Go.Ab

namespace Go.Ab
open Go
section
variable {P : Program} {ρ : Nm → Loc} {H H' : AH} {w w' : World} {t : Fr} {a : Act} {o : Oper} {v : AV} {nm : Nat → Nm}
theorem HRel.heap_eq (hw:HRel ρ H w) (h:w'.heap=w.heap):HRel ρ H w':=by
 refine ⟨fun n o hn=>?_,fun n o hn hl=>by rw [h]; exact hw.lt n o hn hl,hw.inj,hw.tmp,hw.io⟩
 have:=hw.obj n o hn
 cases o <;> simp only [objAt,rowAt,fixAt,h] at this ⊢ <;> exact this
theorem Ext.heap_eq (h:w'.heap=w.heap) (hos:w'.os=w.os∧w'.output=w.output:=by exact ⟨rfl,rfl⟩):Ext ρ ρ H H w w' :=
 ⟨fun _ hn=>⟨hn,rfl⟩,by rw [h]; exact Nat.le_refl _,fun _ _ _=>by rw [h],fun n o hn hl _=>⟨n,o,hn,hl,rfl⟩,Int.le_refl _,hos⟩
theorem row_grow (hw:HRel ρ H w) {n:Nm} {c d:Nat} {g g':Nat→AV} {cells c':Array Value} {T:TypeId} (hn:H.f n=some (.row c g)) (hb:w.heap[(ρ n).b]? = some (.cells cells T (0,0)))
  (hsz:c'.size=cells.size) (hszρ:cells.size=(ρ n).sz) (hcl:d≤cells.size) (hrel : ∀ j,j<d → ∃ v,c'[j]? = some v∧VRel ρ H.D (g' j) v) :
  HRel ρ (H.set n (.row d g')) (World.setBlk w (ρ n).b (.cells c' T (0,0)))∧Ext ρ ρ H (H.set n (.row d g')) w (World.setBlk w (ρ n).b (.cells c' T (0,0))) :=
 hw.turn hn rfl (by simp) (by simp) (setBlk_size ..) (fun b hb'=>setBlk_ne _ hb')
  ⟨c',T,setBlk_same hb,by rw [hsz,hszρ],by omega,fun i hi=>by
   obtain ⟨v,h1,h2⟩:=hrel i hi
   exact ⟨v,h1,by rw [AH.set_D (AH.D_of hn)]; exact h2⟩⟩
theorem HRel.kill (hw:HRel ρ H w) {n:Nm} {o:AO} (hn:H.f n=some o) (hno : ∀ m,o≠.itr m):HRel ρ (H.set n .dead) w∧Ext ρ ρ H (H.set n .dead) w w:=by
 have hD:(H.set n .dead).D=H.D:=AH.set_D (AH.D_of hn)
 refine ⟨⟨?_,?_,?_,?_,?_⟩,⟨fun m hm=>⟨by rw [hD]; exact hm,rfl⟩,Nat.le_refl _,fun _ _ _=>rfl,?_,Int.le_refl _,rfl,rfl⟩⟩
 ·intro m om hm
  by_cases hmn:m=n
  ·subst hmn; rw [AH.set_same] at hm; cases hm; trivial
  ·rw [AH.set_ne H _ hmn] at hm
   refine objAt_other (hw.obj m om hm) (fun k hk=>⟨by rw [hD]; exact hk,rfl⟩) (AH.D_of hm) rfl ?_ ?_
   ·intro r mp it seen c he
    subst he
    obtain ⟨es,clock,sb,h1,h2,h3,h4,_⟩:=hw.obj m _ hm
    exact ⟨AH.D_of h3,AH.set_ne H _ (fun he=>by subst he; rw [hn] at h3; exact hno _ (Option.some.inj h3)),rfl⟩
   ·intro k he; subst he; exact hw.io m k hm
 ·intro m om hm hl
  by_cases hmn:m=n
  ·subst hmn; rw [AH.set_same] at hm; cases hm; simp [AO.live] at hl
  ·rw [AH.set_ne H _ hmn] at hm; exact hw.lt m om hm hl
 ·intro m1 m2 o1 o2 h1 h2 l1 l2 he
  by_cases e1:m1=n
  ·subst e1; rw [AH.set_same] at h1; cases h1; simp [AO.live] at l1
  ·by_cases e2:m2=n
   ·subst e2; rw [AH.set_same] at h2; cases h2; simp [AO.live] at l2
   ·rw [AH.set_ne H _ e1] at h1; rw [AH.set_ne H _ e2] at h2; exact hw.inj m1 m2 o1 o2 h1 h2 l1 l2 he
 ·intro m ht hk
  by_cases hmn:m=n
  ·subst hmn; have:=hw.tmp m ht hk; rw [hn] at this; cases this
  ·rw [AH.set_ne H _ hmn]; exact hw.tmp m ht hk
 ·intro m k hm
  rw [hD]
  by_cases hmn:m=n
  ·subst hmn; rw [AH.set_same] at hm; cases hm
  ·rw [AH.set_ne H _ hmn] at hm; exact hw.io m k hm
 ·intro m om hm hl _
  by_cases hmn:m=n
  ·subst hmn; rw [AH.set_same] at hm; cases hm; simp [AO.live] at hl
  ·rw [AH.set_ne H _ hmn] at hm; exact ⟨m,om,hm,hl,rfl⟩
theorem HRel.rename (hw:HRel ρ H w) {n q:Nm} {c:Nat} {g:Nat→AV} (hn:H.f n=some (.row c g)) (hq : ¬ H.D q) (ht:q.t=0→q.i≤H.k) :
  HRel (fun m=>if m=q then ρ n else ρ m) ((H.set n .dead).set q (.row c g)) w∧Ext ρ (fun m=>if m=q then ρ n else ρ m) H ((H.set n .dead).set q (.row c g)) w w:=by
 obtain ⟨k1,k2⟩:=hw.kill hn (by simp)
 have hD:(H.set n .dead).D=H.D:=AH.set_D (AH.D_of hn)
 have hnq:n≠q:=fun he=>hq (he ▸ AH.D_of hn)
 have hDD : ∀ m,(H.set n .dead).D m→((H.set n .dead).set q (.row c g)).D m∧(if m=q then ρ n else ρ m)=ρ m:=fun m hm =>
  ⟨AH.set_D_mono hm,if_neg (fun (he:m=q)=>hq (by rw [← hD]; exact he ▸ hm))⟩
 have hqf:(H.set n .dead).f q=none:=by
  cases h:(H.set n .dead).f q with
  | none=>rfl
  | some o=>exact absurd (by rw [← hD]; exact AH.D_of h) hq
 refine ⟨⟨?_,?_,?_,?_,?_⟩,⟨fun m hm=>hDD m (by rw [hD]; exact hm),Nat.le_refl _,fun _ _ _=>rfl,?_,Int.le_refl _,rfl,rfl⟩⟩
 ·intro m om hm
  by_cases hmq:m=q
  ·subst hmq
   rw [AH.set_same] at hm; cases hm
   obtain ⟨cells,T,h1,h2,h3,h4⟩:=hw.obj n _ hn
   refine ⟨cells,T,by simpa using h1,by simpa using h2,h3,fun i hi=>?_⟩
   obtain ⟨v,hv,hr⟩:=h4 i hi
   exact ⟨v,hv,hr.mono fun m hm=>hDD m (by rw [hD]; exact hm)⟩
  ·rw [AH.set_ne _ _ hmq] at hm
   refine objAt_other (k1.obj m om hm) hDD (AH.D_of hm) rfl ?_ ?_
   ·intro r mp it seen c' he
    subst he
    obtain ⟨es,clock,sb,h1,h2,h3,h4,_⟩:=k1.obj m _ hm
    exact ⟨AH.D_of h3,AH.set_ne _ _ (fun he=>by subst he; rw [hqf] at h3; cases h3),rfl⟩
   ·intro k he; subst he; exact k1.io m k hm
 ·intro m om hm hl
  by_cases hmq:m=q
  ·subst hmq; simp; exact hw.lt n _ hn rfl
  ·rw [AH.set_ne _ _ hmq] at hm; simp [hmq]; exact k1.lt m om hm hl
 ·have notn : ∀ m om,(H.set n .dead).f m=some om→om.live=true→(ρ m).b≠(ρ n).b:=by
   intro m om hm hl he
   by_cases hmn:m=n
   ·subst hmn; rw [AH.set_same] at hm; cases hm; simp [AO.live] at hl
   ·rw [AH.set_ne H _ hmn] at hm; exact hmn (hw.inj m n om _ hm hn hl rfl he)
  intro m1 m2 o1 o2 h1 h2 l1 l2 he
  by_cases e1:m1=q <;> by_cases e2:m2=q
  ·rw [e1,e2]
  ·subst e1; rw [AH.set_ne _ _ e2] at h2; simp [e2] at he; exact absurd he.symm (notn m2 o2 h2 l2)
  ·subst e2; rw [AH.set_ne _ _ e1] at h1; simp [e1] at he; exact absurd he (notn m1 o1 h1 l1)
  ·rw [AH.set_ne _ _ e1] at h1; rw [AH.set_ne _ _ e2] at h2; simp [e1,e2] at he; exact k1.inj m1 m2 o1 o2 h1 h2 l1 l2 he
 ·intro m ht' hk
  by_cases hmq:m=q
  ·subst hmq
   have:=ht ht'
   have hk':H.k<m.i:=hk
   omega
  ·rw [AH.set_ne _ _ hmq]; exact k1.tmp m ht' hk
 ·intro m k hm
  by_cases hmq:m=q
  ·subst hmq; rw [AH.set_same] at hm; cases hm
  ·rw [AH.set_ne _ _ hmq] at hm; exact AH.set_D_mono (k1.io m k hm)
 ·intro m om hm hl hb
  by_cases hmq:m=q
  ·subst hmq; exact ⟨n,_,hn,rfl,by simp⟩
  ·rw [AH.set_ne _ _ hmq] at hm
   by_cases hmn:m=n
   ·subst hmn; rw [AH.set_same] at hm; cases hm; simp [AO.live] at hl
   ·rw [AH.set_ne H _ hmn] at hm; exact ⟨m,om,hm,hl,by simp [hmq]⟩
theorem e_bsl {q:Nat} {zero:List AV} {parts:List (Nat × Nat × X)} {len e:Nat} (hw:HRel ρ H w) (ht:TRel ρ H.D t a) (hn : ¬ H.D (nm q)) (hk:(nm q).t=0→(nm q).i≤H.k)
  (hc:chkEff P o.op (.bsl q zero parts len e)=true) (hv:effV nm H t (.bsl q zero parts len e)=some (v,H')):Effs P ρ H w a o v H':=by
 obtain ⟨dst,op,ty,pos,aft,g⟩:=o
 cases op <;> simp only [chkEff,Bool.false_eq_true] at hc
 rename_i T n ps
 cases hu:P.underlying T with
 | none=>simp [hu] at hc
 | some d =>
 cases d <;> simp only [hu,Bool.false_eq_true] at hc
 rename_i el
 cases hi:P.info? el with
 | none=>simp [hi] at hc
 | some i =>
 simp only [hi] at hc
 cases hz:i.zero with
 | none=>simp [hz] at hc
 | some z =>
 simp only [hz,Bool.and_eq_true,beq_iff_eq,decide_eq_true_eq] at hc
 obtain ⟨⟨⟨⟨rfl,hsz⟩,hle⟩,hzz⟩,hps⟩:=hc
 simp only [effV] at hv
 cases hf:fillP t zero parts with
 | none=>simp [hf] at hv
 | some l =>
 simp only [hf] at hv
 split at hv
 ·rename_i hll
  simp only [Option.some.injEq,Prod.mk.injEq] at hv
  obtain ⟨rfl,rfl⟩:=hv
  have hzr:VRels ρ H.D zero ((Array.range (n*e)).map fun j=>(if n*e=0 then (#[]:Array Value) else z.cells)[j % (if n*e=0 then (#[]:Array Value) else z.cells).size]!).toList:=constsOk_rel hzz
  obtain ⟨c',hfill,hr⟩:=fillP_run ht hps hf hzr
  obtain ⟨e1,e2⟩:=row_new hw hn hk el hr
  have hlen:=hr.length
  simp at hlen
  refine ⟨.value (.slice (some ⟨w.heap.size,0,none⟩) n n),_,_,_,?_,.inl rfl,?_,e1,e2⟩
  ·have hparts:(ps.map fun p=>(p.1,a.eval p.2)).toList=ps.toList.map fun p=>(p.1,a.eval p.2):=by simp
   have hnb : ¬ (n*e>2 ^ 24):=by omega
   simp only [execOp,Instr.buildSlice,Sem.run_bind,run_underlying hu,Result.andThen_ok,sizeOf,typeInfo,run_program,hi,Sem.run_pure,hsz]
   rw [if_neg hnb]
   by_cases h0:n*e=0
   ·simp only [h0,if_true] at hfill
    simp only [h0,if_true,Sem.run_pure,Result.andThen_ok,hparts,hfill,newRow,newObj,Sem.run_bind,Sem.run]
   ·simp only [h0,if_false] at hfill
    simp only [h0,if_false,zeroValue,typeInfo,Sem.run_bind,run_program,Result.andThen_ok,hi,Sem.run_pure,hz,hparts,hfill,newRow,newObj,Sem.run]
  ·simp only [VRel]
   exact ⟨AH.D_of (AH.set_same H _ _),⟨w.heap.size,0,none⟩,n,rfl,Nat.le_refl _,rfl,.inl ⟨by simp,fun _=>by simp; omega⟩⟩
 ·cases hv
theorem appd_run (hw:HRel ρ H w) {e:Nat} {x:AV} {u:Value} (hx:VRel ρ H.D x u) {l:List AV} (h:appd H e x=some l) :
  (l=[]∧u=.slice none 0 0) ∨ ∃ (b:Addr) (n cap:Nat) (c:List Value),u=.slice (some b) n cap∧l.length=n*e∧c.length=n*e∧VRels ρ H.D l c∧(∀ j u,c[j]? = some u→w.cell? (b.add j)=some u):=by
 cases x <;> simp [appd] at h
 case slice m e' off len =>
  obtain ⟨rfl,h⟩:=h
  obtain ⟨c,hl,hr,hc⟩:=rdN_cells hw h
  simp only [VRel] at hx
  obtain ⟨hD,b,cap,rfl,hlc,hsp,hor⟩:=hx
  refine .inr ⟨b,len,cap,c,rfl,by rw [hr.length,hl],hl,hr,fun j u hj=>?_⟩
  rcases hor with ⟨rfl,_⟩ | ⟨rfl,_⟩
  ·rw [addr_add]; exact hc j u hj
  ·simp at hl; subst hl; simp at hj
 case nils =>
  subst h
  simp only [VRel] at hx
  exact .inl ⟨rfl,hx⟩
theorem append_zero {T ty el:TypeId} {i:TypeInfo} (hu:P.underlying T=some (.slice el)) (hi:P.info? el=some i) (base:Option Addr) (sLen sCap:Nat) (h:sLen≤sCap) (b:Option Addr) (cap:Nat) :
  (Builtin.append_ #[T,T] ty #[.slice base sLen sCap,.slice b 0 cap]).run P w=.ok (.slice base sLen sCap) w:=by
 cases b <;> cases base <;> simp [Builtin.append_,run_underlying hu,sizeOf,typeInfo,hi,Builtin.lenOf,Builtin.firstCells,h,loadCells,loadCellsFrom,storeCells]
theorem setRow_blk {b:Nat} {c c':Array Value} {T:TypeId} (h:w.heap[b]? = some (.cells c T (0,0))):w.setRow b c'=World.setBlk w b (.cells c' T (0,0)):=by
 have hsz:(w.setRow b c').heap.size=w.heap.size:=by simp [World.setRow]
 have h1:=setRow_heap w b c c' T (0,0) h
 have:(w.setRow b c').heap=(World.setBlk w b (.cells c' T (0,0))).heap:=by
  apply Array.ext_getElem?
  intro j
  by_cases hj:j=b
  ·subst hj; rw [h1,setBlk_same h]
  ·rw [setRow_other w b j c' hj,setBlk_ne _ hj]
 cases w
 simp only [World.setRow,World.setBlk] at *
 congr 1
theorem row_new' (hw:HRel ρ H w) {n:Nm} (hn : ¬ H.D n) (ht:n.t=0→n.i≤H.k) {c:Nat} {g:Nat→AV} {cells:Array Value} (T:TypeId) (hcl:c≤cells.size)
  (hrel : ∀ j,j<c → ∃ v,cells[j]? = some v∧VRel ρ H.D (g j) v) :
  HRel (fun m=>if m=n then ⟨w.heap.size,cells.size⟩ else ρ m) (H.set n (.row c g)) { w with heap:=w.heap.push (.cells cells T (0,0)) } ∧
   Ext ρ (fun m=>if m=n then ⟨w.heap.size,cells.size⟩ else ρ m) H (H.set n (.row c g)) w { w with heap:=w.heap.push (.cells cells T (0,0)) }:=by
 refine hw.new hn ht ?_ (by simp)
 refine ⟨cells,T,by simp,by simp,hcl,fun i hi=>?_⟩
 obtain ⟨v,h1,h2⟩:=hrel i hi
 exact ⟨v,h1,h2.mono fun m hm=>⟨AH.set_D_mono hm,if_neg (fun (he:m=n)=>hn (he ▸ hm))⟩⟩
theorem app_new {o:Oper} {q:Nm} {need cap e c:Nat} {g:Nat→AV} {cells:Array Value} {el:TypeId} {H1:AH} (hw:HRel ρ H1 w) (hx:Ext ρ ρ H H1 w w) (hn : ¬ H1.D q) (ht:q.t=0→q.i≤H1.k)
  (hrun:(execOp a.eval o).run P w=.ok (.value (.slice (some ⟨w.heap.size,0,none⟩) need cap)) (w.drew.alloc (.cells cells el)))
  (hcap:need≤cap) (hsz:cells.size=cap*e) (hcl:c≤cells.size) (hrel : ∀ j,j<c → ∃ v,cells[j]? = some v∧VRel ρ H1.D (g j) v) :
  Effs P ρ H w a o (.slice q e 0 need) (H1.set q (.row c g)):=by
 have hw1:HRel ρ H1 w.drew:=hw.heap_eq rfl
 obtain ⟨e1,e2⟩:=row_new' hw1 hn ht el hcl hrel
 refine ⟨_,_,_,_,hrun,.inl rfl,?_,e1,hx.trans (Ext.trans (H':=H1) (w':=w.drew) (Ext.heap_eq rfl) e2)⟩
 simp only [VRel]
 exact ⟨AH.D_of (AH.set_same _ _ _),⟨w.heap.size,0,none⟩,cap,rfl,hcap,rfl,.inl ⟨by simp,fun _=>by simp; omega⟩⟩
theorem e_app {q:Nat} {sx xx:X} {e:Nat} (hw:HRel ρ H w) (ht:TRel ρ H.D t a) (hn : ¬ H.D (nm q)) (hk:(nm q).t=0→(nm q).i≤H.k)
  (hc:chkEff P o.op (.app q sx xx e)=true) (hv:effV nm H t (.app q sx xx e)=some (v,H')):Effs P ρ H w a o v H':=by
 obtain ⟨dst,op,ty,pos,aft,g⟩:=o
 cases op <;> simp only [chkEff,Bool.false_eq_true] at hc
 rename_i c
 obtain ⟨callee,args,ats⟩:=c
 cases callee <;> (try simp only [Bool.false_eq_true] at hc)
 rename_i b
 cases b <;> (try simp only [Bool.false_eq_true] at hc)
 obtain ⟨T,T',hats⟩ : ∃ T T',ats = #[T,T']:=by
  obtain ⟨l⟩:=ats
  match l,hc with
  | [T,T'],_=>exact ⟨T,T',rfl⟩
 obtain ⟨y,z,hargs⟩ : ∃ y z,args = #[y,z]:=by
  subst hats
  obtain ⟨l⟩:=args
  match l,hc with
  | [y,z],_=>exact ⟨y,z,rfl⟩
 subst hats; subst hargs
 simp only [Bool.and_eq_true,beq_iff_eq] at hc
 obtain ⟨⟨⟨rfl,hy⟩,hz⟩,hT⟩:=hc
 have hy:=chkX_rel ht hy
 have hz:=chkX_rel ht hz
 cases hu:P.underlying T with
 | none=>simp [hu] at hT
 | some d =>
 cases d <;> simp only [hu,Bool.false_eq_true,Bool.and_eq_true] at hT
 rename_i el
 obtain ⟨⟨hsz,he0⟩,hT⟩:=hT
 have he0:e≠0:=by simpa using he0
 cases hi:P.info? el with
 | none=>simp [hi] at hT
 | some i =>
 simp only [hi,Bool.and_eq_true,decide_eq_true_eq] at hT
 obtain ⟨hby,hzz⟩:=hT
 cases hiz:i.zero with
 | none=>simp [hiz] at hzz
 | some zv =>
 have hzsz:zv.cells.size=e:=by simpa [hiz] using hzz
 have hise:i.size=e:=by simpa [sizeT,hi] using hsz
 subst hise
 simp only [effV] at hv
 cases hap:appd H i.size (ev t xx) with
 | none=>simp [hap] at hv
 | some l =>
 simp only [hap] at hv
 split at hv
 ·cases hv
 rename_i hbig
 obtain ⟨hbig,hsc⟩:l.length≤2 ^ 32∧l.all AV.scalar=true:=by
  constructor
  ·rcases Nat.lt_or_ge (2 ^ 32) l.length with h | h
   ·exact absurd (.inl h) hbig
   ·exact h
  ·cases h:l.all AV.scalar with
   | true=>rfl
   | false=>exact absurd (.inr h) hbig
 have run : ∀ v' w',(Builtin.append_ #[T,T] ty #[a.eval y,a.eval z]).run P w=.ok v' w' →
   (execOp a.eval { dst,op:=.call { callee:=.builtin .append,args := #[y,z],argTypes := #[T,T] },type:=ty,pos,after:=aft,guard:=g }).run P w=.ok (.value v') w':=by
  intro v' w' h
  simp [execOp,resolve,invoke,builtin,h]
 have zero : ∀ (base:Option Addr) (sLen sCap:Nat),a.eval y=.slice base sLen sCap→sLen≤sCap→l.length=0 →
   (Builtin.append_ #[T,T] ty #[a.eval y,a.eval z]).run P w=.ok (a.eval y) w:=by
  intro base sLen sCap hb hle hl
  rcases appd_run hw hz hap with ⟨_,hz'⟩ | ⟨b,n,cap,c,hz',hln,_⟩
  ·rw [hz',hb]; exact append_zero hu hi base sLen sCap hle none 0
  ·have:n=0:=by
    rw [hl] at hln
    rcases Nat.mul_eq_zero.1 hln.symm with h | h
    ·exact h
    ·exact absurd h he0
   subst this
   rw [hz',hb]; exact append_zero hu hi base sLen sCap hle (some b) cap
 cases hes:ev t sx <;> simp only [hes,reduceCtorEq] at hv <;> rw [hes] at hy <;> simp only [VRel] at hy
 case nils =>
  split at hv
  ·rename_i hl0
   simp only [Option.some.injEq,Prod.mk.injEq] at hv
   obtain ⟨rfl,rfl⟩:=hv
   have:=zero none 0 0 hy (Nat.le_refl _) hl0
   rw [hy] at this
   exact ⟨_,_,_,_,run _ _ (by rw [hy]; exact this),.inl rfl,by simp [VRel],hw,Ext.refl _ _ _⟩
  ·rename_i hl0
   simp only [Option.some.injEq,Prod.mk.injEq] at hv
   obtain ⟨rfl,rfl⟩:=hv
   rcases appd_run hw hz hap with ⟨rfl,_⟩ | ⟨b,n,cap,c,hz',hln,hcn,hrel,hcells⟩
   ·exact absurd rfl hl0
   ·have hn0:0<n:=by
     rcases Nat.eq_zero_or_pos n with h | h
     ·subst h; simp at hln; exact absurd hln (by simpa using hl0)
     ·exact h
    have hnl:n≤l.length:=by rw [hln]; exact Nat.le_mul_of_pos_right n (by omega)
    have hdiv:l.length / i.size=n:=by rw [hln]; exact Nat.mul_div_cancel n (by omega)
    have hr:=run_append_nil (P:=P) w T ty el i zv hu hi hiz b n cap c hcn hcells hn0 (by omega) (by
     have:n*i.bytes≤2 ^ 32*2 ^ 12:=Nat.mul_le_mul (by omega) hby
     omega)
    rw [← hy,← hz'] at hr
    have hge:=grownCap_ge w n 0 el
    rw [hdiv]
    have hlr:=hrel.length
    refine app_new hw (Ext.refl _ _ _) hn hk (run _ _ hr) hge ?_ (by simp; omega) (fun j hj=>?_)
    ·simp only [Array.size_append,List.size_toArray,size_zeroCells,hzsz,hcn,← Nat.add_mul]
     congr 1; omega
    ·obtain ⟨v,h1,h2⟩:=hrel.get j _ (List.getElem?_eq_getElem hj)
     refine ⟨v,?_,by simpa [cs,hj] using h2⟩
     rw [Array.getElem?_append_left (by simp; omega)]
     simpa using h1
 case slice n1 e' off len =>
  cases off with
  | succ off=>simp at hv
  | zero =>
  simp only at hv
  cases hf:H.f n1 with
  | none=>simp [hf] at hv
  | some o1 =>
  cases o1 <;> simp only [hf,reduceCtorEq] at hv
  rename_i c0 g0
  split at hv
  ·rename_i hh
   obtain ⟨rfl,hc0,hlen⟩:=hh
   obtain ⟨hDn1,b0,cap0,hy0,hlc0,hsp0,hor0⟩:=hy
   split at hv
   ·rename_i hl0
    simp only [Option.some.injEq,Prod.mk.injEq] at hv
    obtain ⟨rfl,rfl⟩:=hv
    have:=zero (some b0) len cap0 hy0 hlc0 hl0
    refine ⟨_,_,_,_,run _ _ this,.inl rfl,?_,hw,Ext.refl _ _ _⟩
    simp only [VRel]
    exact ⟨hDn1,b0,cap0,hy0,hlc0,hsp0,by simpa using hor0⟩
   ·rename_i hl0
    simp only [Option.some.injEq,Prod.mk.injEq] at hv
    obtain ⟨rfl,rfl⟩:=hv
    rcases appd_run hw hz hap with ⟨rfl,_⟩ | ⟨b,n,cap,c,hz',hln,hcn,hrel,hcells⟩
    ·exact absurd rfl hl0
    have hn0:0<n:=by
     rcases Nat.eq_zero_or_pos n with h | h
     ·subst h; simp at hln; exact absurd hln (by simpa using hl0)
     ·exact h
    have hnl:n≤l.length:=by rw [hln]; exact Nat.le_mul_of_pos_right n (by omega)
    have hdiv:l.length / i.size=n:=by rw [hln]; exact Nat.mul_div_cancel n (by omega)
    rw [hdiv]
    have hlr:=hrel.length
    obtain ⟨cells,CT,hb,hs,hcl,hg⟩:=hw.obj n1 _ hf
    have hones : ∀ u∈c,u.oneCell'=true:=hrel.ones hsc
    have hbytes:(len+n)*i.bytes≤140737488355328:=by
     have:(len+n)*i.bytes≤(2 ^ 32+2 ^ 32)*2 ^ 12:=Nat.mul_le_mul (by omega) hby
     omega
    by_cases hroom:len+n≤cap0
    ·
     have hb0:b0=⟨(ρ n1).b,0,none⟩∧cap0*i.size≤(ρ n1).sz:=by
      rcases hor0 with ⟨h1,h2⟩ | ⟨h1,h2⟩
      ·exact ⟨h1,h2 rfl⟩
      ·omega
     obtain ⟨rfl,hcapsz⟩:=hb0
     have hfit:len*i.size+c.length≤cells.size:=by
      rw [hcn,← Nat.add_mul,hs]
      exact Nat.le_trans (Nat.mul_le_mul_right _ hroom) hcapsz
     have hst:=run_storeCells_at P (ρ n1).b (len*i.size) CT c 0 cells w hb (by simpa using hfit) hones
     simp only [Nat.add_zero] at hst
     have hfc:=run_firstCells_some (P:=P) w i.size n b n cap c hcn hcells
     have hr:(Builtin.append_ #[T,T] ty #[a.eval y,a.eval z]).run P w=.ok (.slice (some ⟨(ρ n1).b,0,none⟩) (len+n) cap0) (w.setRow (ρ n1).b (cells.toList.take (len*i.size)++c++cells.toList.drop (len*i.size+c.length)).toArray):=by
      rw [hy0,hz']
      simp [Builtin.append_,run_underlying hu,sizeOf,typeInfo,hi,Builtin.lenOf,hroom,hfc,addr_add,hst]
     have hrow:w.setRow (ρ n1).b (cells.toList.take (len*i.size)++c++cells.toList.drop (len*i.size+c.length)).toArray =
       World.setBlk w (ρ n1).b (.cells (cells.toList.take (len*i.size)++c++cells.toList.drop (len*i.size+c.length)).toArray CT (0,0)):=setRow_blk hb
     rw [hrow] at hr
     obtain ⟨e1,e2⟩:=row_grow hw hf hb (c':=(cells.toList.take (len*i.size)++c++cells.toList.drop (len*i.size+c.length)).toArray) (d:=c0+l.length)
      (g':=fun j=>if j<c0 then g0 j else l.getD (j-c0) .any) (by simp; omega) hs (by omega) (fun j hj=>by
       by_cases hjc:j<c0
       ·obtain ⟨v,h1,h2⟩:=hg j hjc
        refine ⟨v,?_,by simpa [hjc] using h2⟩
        have hlt:j<cells.size:=by omega
        rw [List.getElem?_toArray,List.append_assoc,List.getElem?_append_left (by simp; omega),List.getElem?_take,if_pos (by omega)]
        simpa using h1
       ·have hjl:j-c0<l.length:=by omega
        obtain ⟨v,h1,h2⟩:=hrel.get (j-c0) _ (List.getElem?_eq_getElem hjl)
        refine ⟨v,?_,by simpa [hjc,hjl] using h2⟩
        rw [List.getElem?_toArray,List.append_assoc,List.getElem?_append_right (by simp; omega),List.getElem?_append_left (by simp; omega)]
        rw [← h1]; congr 1; simp; omega)
     obtain ⟨e3,e4⟩:=e1.rename (q:=nm q) (AH.set_same H n1 _) (by rw [AH.set_D (AH.D_of hf)]; exact hn) hk
     have hset:((H.set n1 (.row (c0+l.length) fun j=>if j<c0 then g0 j else l.getD (j-c0) .any)).set n1 .dead).set (nm q) (.row (c0+l.length) fun j=>if j<c0 then g0 j else l.getD (j-c0) .any) =
       (H.set n1 .dead).set (nm q) (.row (c0+l.length) fun j=>if j<c0 then g0 j else l.getD (j-c0) .any):=by
      simp only [AH.set]; congr 1; funext m; split <;> first | rfl | (split <;> rfl)
     rw [hset] at e3 e4
     refine ⟨_,_,_,_,run _ _ hr,.inl rfl,?_,e3,e2.trans e4⟩
     simp only [VRel]
     exact ⟨AH.D_of (AH.set_same _ _ _),_,cap0,rfl,hroom,rfl,.inl ⟨by simp,fun _=>by simpa using hcapsz⟩⟩
    ·
     obtain ⟨olds,ho1,ho2⟩ : ∃ olds:List Value,olds.length=len*i.size ∧ ∀ j u,olds[j]? = some u→j<c0∧cells[j]? = some u:=by
      refine ⟨(cells.toList.take (len*i.size)),by simp; omega,fun j u hj=>?_⟩
      rw [List.getElem?_take] at hj
      split at hj
      ·exact ⟨by omega,by simpa using hj⟩
      ·cases hj
     have holds : ∀ j v,olds[j]? = some v→w.cell? (b0.add j)=some v:=fun j u hj=>by
      obtain ⟨h1,h2⟩:=ho2 j u hj
      rcases hor0 with ⟨rfl,_⟩ | ⟨h3,h4⟩
      ·rw [addr_add]; simp [World.cell?,hb,h2]
      ·subst h3; simp at hc0; omega
     have hr:=run_append_grow (P:=P) w T ty el i zv hu hi hiz b0 len cap0 olds ho1 holds b n cap c hcn hcells (by omega) (by omega) (growslice_fits (by omega) hbytes)
     rw [← hy0,← hz'] at hr
     have hge:=grownCap_ge w (len+n) cap0 el
     obtain ⟨k1,k2⟩:=hw.kill hf (by simp)
     refine app_new k1 k2 (by rw [AH.set_D (AH.D_of hf)]; exact hn) hk (run _ _ hr) hge ?_ (by simp; omega) (fun j hj=>?_)
     ·simp only [Array.size_append,List.size_toArray,size_zeroCells,hzsz,hcn,ho1,← Nat.add_mul]
      congr 1; omega
     ·rw [AH.set_D (AH.D_of hf)]
      by_cases hjc:j<c0
      ·obtain ⟨v,h1,h2⟩:=hg j hjc
       refine ⟨v,?_,by simpa [hjc] using h2⟩
       have hjo:j<olds.length:=by omega
       obtain ⟨_,h4⟩:=ho2 j _ (List.getElem?_eq_getElem hjo)
       rw [h1] at h4
       rw [Array.getElem?_append_left (by simp; omega),Array.getElem?_append_left (by simp; omega)]
       simp only [List.getElem?_toArray]
       rw [List.getElem?_eq_getElem hjo,h4]
      ·have hjl:j-c0<l.length:=by omega
       obtain ⟨v,h1,h2⟩:=hrel.get (j-c0) _ (List.getElem?_eq_getElem hjl)
       refine ⟨v,?_,by simpa [hjc,hjl] using h2⟩
       rw [Array.getElem?_append_left (by simp; omega),Array.getElem?_append_right (by simp; omega)]
       rw [← h1]
       simp only [List.getElem?_toArray,List.size_toArray]
       congr 1; omega
  ·cases hv
end
end Go.Ab

namespace Go.Ab
open Go
def AV.isTup:AV→Bool
 | .tup _=>true
 | _=>false
abbrev und:AV:=.tup []
theorem und_rel {ρ:Nm→Loc} {D:Nm→Prop}:VRel ρ D und undef:=by
 simp only [VRel,undef]
 exact ⟨#[],rfl,by simp [VRels]⟩
def bmp (c:Nat) (H:AH):AH:=if c=0 then H else { H with k:=H.k+1,sup:=H.sup.drop c }
def AH.nm (H:AH) (q:Nat):Nm:=match H.sup[q]? with
 | some n=>n
 | none=>⟨0,H.k,q⟩
def AH.nmOk (H:AH) (q:Nat):Prop:=match H.sup[q]? with
 | some n=>n.t≠0∧H.f n=none
 | none=>True
def Clean (H:AH):Prop := ∀ j,H.f ⟨0,H.k,j⟩=none
def PClean (H:AH) (U:List Nat):Prop := ∀ j:Int,(∀ u∈U,(u:Int)≠j)→H.f ⟨0,H.k,j⟩=none
def Callable (P : Program) (f : FuncId) : Prop := ∃ fn, P.funcs[f]? = some fn ∧ fn.body.isNone = false ∧ fn.name ≠ "runtime.NumGoroutine"
def ACalls (P:Program) (f:FuncId) (args:List AV) (H:AH) (K:AV→AH→Prop):Prop :=
 Callable P f ∧ ∀ (ρ:Nm→Loc) (w:World) (vs:List Value),HRel ρ H w→Clean H→VRels ρ H.D args vs →
  Calls P f vs.toArray w fun e w' => ∃ (v:AV) (v':Value) (ρ':Nm→Loc) (H':AH),e=.returned v'∧K v H'∧HRel ρ' H' w'∧Clean H'∧VRel ρ' H'.D v v'∧Ext ρ ρ' H H' w w'
theorem ACalls.mono {P:Program} {f:FuncId} {args:List AV} {H:AH} {K K':AV→AH→Prop} (h:ACalls P f args H K) (hk : ∀ v H',K v H'→K' v H'):ACalls P f args H K' :=
 ⟨h.1,fun ρ w vs hw hcl hv=>(h.2 ρ w vs hw hcl hv).mono fun _ _ ⟨v,v',ρ',H',e1,e2,e3⟩=>⟨v,v',ρ',H',e1,hk _ _ e2,e3⟩⟩
def gv (b:Bool):AV→Option Bool
 | .bool b'=>some (b'==b)
 | v=>if v.isTup then some false else none
def gd (g:Option (Nat × Bool)) (t:Fr):Option Bool:=match g with
 | none=>some true
 | some (s,b)=>gv b (t s)
abbrev Hold:=Option (Nat × Bool) × Nat × AI
def holdsOk (l:List Hold) (t:Fr) (H:AH):Prop := ∀ p∈l,gd p.1 t=some true→pureV H t p.2.2=some (t p.2.1)
def OutD (t:Fr) (H:AH) (J:Bool→AV→AH→Prop) (a:AI):Prop :=
 match pureV H t a with
  | some v=>J false v H
  | none=>match effV H.nm H t a with
   | some (v,H')=>(∀ q,a.q=some q→H.nmOk q)∧J true v H'
   | none=>False
theorem OutD_mono {t:Fr} {H:AH} {J J':Bool→AV→AH→Prop} (hj : ∀ b v H',J b v H'→J' b v H') {a:AI} (h:OutD t H J a):OutD t H J' a:=by
 unfold OutD at *
 cases hp:pureV H t a with
 | some v=>simp only [hp] at h ⊢; exact hj _ _ _ h
 | none =>
  simp only [hp] at h ⊢
  cases he:effV H.nm H t a with
  | none=>simp only [he] at h
  | some p=>obtain ⟨v,H'⟩:=p; simp only [he] at h ⊢; exact ⟨h.1,hj _ _ _ h.2⟩
def Out (P:Program) (bm:Nat) (t:Fr) (H:AH) (J:Bool→AV→AH→Prop):AI→Prop
 | .call f args=>match ev t f with
  | .fn g caps=>ACalls P g (evs t args++caps) (bmp bm H) fun v H'=>J true v H'
  | _=>False
 | .rng q x=>H.nmOk q∧match ev t x with
  | .map n=>match H.f n with
   | some (.mp r m) => ∀ c,J true (.ptr (H.nm q) 0) ((H.set n (.mpi r m (H.nm q) [] c)).set (H.nm q) (.itr n))
   | _=>False
  | .nilm=>J true (.ptr (H.nm q) 0) (H.set (H.nm q) .itr0)
  | _=>False
 | .nxt x=>match ev t x with
  | .ptr it 0=>match H.f it with
   | some .itr0=>J true (.tup [.bool false]) H
   | some (.itr n)=>match H.f n with
    | some (.mpi r m it' seen c)=>it=it' ∧
      (∀ key v,m key=some v→key.length=r→key ∉ seen→0<c→J true (.tup [.bool true,.any,.any]) (H.set n (.mpi r m it (key::seen) (c-1)))) ∧
      ((∀ key v,m key=some v→key∈seen)→J true (.tup [.bool false]) (H.set n (.mp r m)))
    | _=>False
   | _=>False
  | _=>False
 | .ment r m k zero=>match ev t m,keyOf r (ev t k) with
  | .map n,some key=>match H.f n with
   | some (.mp r' mp)=>r'=r ∧ ∀ b,J true (.tup [(mp key).getD zero,.int .i64 b]) (H.set n (.mpb r (mset mp key (some ((mp key).getD zero))) key b))
   | _=>False
  | _,_=>False
 | a=>OutD t H J a
theorem Out_mono {P:Program} {bm:Nat} {t:Fr} {H:AH} {J J':Bool→AV→AH→Prop} (hj : ∀ b v H',J b v H'→J' b v H') {a:AI} (h:Out P bm t H J a):Out P bm t H J' a:=by
 cases a
 case call f args =>
  simp only [Out] at h ⊢
  cases hf:ev t f <;> simp only [hf] at h ⊢
  exact h.mono fun v H'=>hj _ _ _
 case rng q x =>
  simp only [Out] at h ⊢
  refine ⟨h.1,?_⟩
  have h:=h.2
  cases hx:ev t x <;> simp only [hx] at h ⊢
  ·cases hn:H.f _ <;> simp only [hn] at h
   rename_i n o
   cases o <;> simp only at h ⊢
   exact fun c=>hj _ _ _ (h c)
  ·exact hj _ _ _ h
 case nxt x =>
  simp only [Out] at h ⊢
  cases hx:ev t x <;> simp only [hx] at h ⊢
  rename_i it off
  cases off <;> simp only at h ⊢
  cases hn:H.f it <;> simp only [hn] at h ⊢
  rename_i o
  cases o <;> simp only at h ⊢
  ·rename_i n
   cases hm:H.f n <;> simp only [hm] at h ⊢
   rename_i o
   cases o <;> simp only at h ⊢
   exact ⟨h.1,fun key v h1 h2 h3 h4=>hj _ _ _ (h.2.1 key v h1 h2 h3 h4),fun hh=>hj _ _ _ (h.2.2 hh)⟩
  ·exact hj _ _ _ h
 case ment r m k zero =>
  simp only [Out] at h ⊢
  cases hm:ev t m <;> simp only [hm] at h ⊢
  rename_i n
  cases hk:keyOf r (ev t k) <;> simp only [hk] at h ⊢
  cases hn:H.f n <;> simp only [hn] at h ⊢
  rename_i key o
  cases o <;> simp only at h ⊢
  exact ⟨h.1,fun b=>hj _ _ _ (h.2 b)⟩
 all_goals (simp only [Out] at h ⊢; exact OutD_mono hj h)
def vca (P:Program) (i:Ins) (K:Fr→AH→Prop) (t:Fr) (H:AH):Prop :=
 Out P i.bm t H (fun b v H'=>(b=true→holdsOk i.hold t H')∧K (put i.d v t) H') i.a
def vci (P:Program) (i:Ins) (K:Fr→AH→Prop) (t:Fr) (H:AH):Prop :=
 match gd i.g t with
 | some true=>vca P i K t H
 | some false=>K (put i.d und t) (bmp i.bm H)
 | none=>False
def vcr (P:Program):List Ins→(Fr→AH→Prop)→Fr→AH→Prop
 | [],K,t,H=>K t H
 | i::r,K,t,H=>vci P i (fun t' H'=>vcr P r K t' H') t H
theorem vca_mono {P:Program} {i:Ins} {K K':Fr→AH→Prop} (hk : ∀ t H,K t H→K' t H) {t:Fr} {H:AH} (h:vca P i K t H):vca P i K' t H :=
 Out_mono (fun _ _ _ hh=>⟨hh.1,hk _ _ hh.2⟩) h
theorem vci_mono {P:Program} {i:Ins} {K K':Fr→AH→Prop} (hk : ∀ t H,K t H→K' t H) {t:Fr} {H:AH} (h:vci P i K t H):vci P i K' t H:=by
 unfold vci at *
 split
 ·rename_i hg; simp only [hg] at h; exact vca_mono hk h
 ·rename_i hg; simp only [hg] at h; exact hk _ _ h
 ·rename_i hg; simp only [hg] at h
theorem vcr_mono {P:Program} : ∀ {r:List Ins} {K K':Fr→AH→Prop},(∀ t H,K t H→K' t H) → ∀ {t:Fr} {H:AH},vcr P r K t H→vcr P r K' t H
 | [],_,_,hk,_,_,h=>hk _ _ h
 | _::_,_,_,hk,_,_,h=>vci_mono (fun _ _=>vcr_mono hk) h
section
variable {P : Program} {ρ : Nm → Loc} {H H' : AH} {w w' : World} {t : Fr} {a : Act} {v : AV}
def chkA (P:Program) (op:Op) (i:AI):Bool:=match i,op with
 | .call f args,.call { callee:=.value g,args:=as,.. }=>chkX f g&&chkXs args as.toList
 | .rng _ x,.range T y=>(match P.underlying T with | some (.map _ _)=>true | _=>false)&&chkX x y
 | .nxt x,.next y false=>chkX x y
 | .ment r m k zero,.mapEntry T m' k'=>(match mapT P T r with | some (_,e)=>zero1T P e zero | none=>false)&&chkX m m'&&chkX k k'
 | .pan,_=>true
 | .call _ _,_ | .rng _ _,_ | .nxt _,_ | .ment _ _ _ _,_=>false
 | i,op=>chkPure P op i||chkEff P op i
def usedBy (i:AI) (U:List Nat):List Nat:=match i with
 | .call _ _=>[]
 | i=>match i.q with
  | some q=>q::U
  | none=>U
theorem PClean.call {U:List Nat} {bm:Nat} (hw:HRel ρ H w) (h:PClean H U) (hb:bm=0→U=[]):HRel ρ (bmp bm H) w∧Clean (bmp bm H)∧Ext ρ ρ H (bmp bm H) w w:=by
 unfold bmp
 split
 ·rename_i hb0
  have:=hb hb0
  subst this
  exact ⟨hw,fun j=>h j (by simp),Ext.refl _ _ _⟩
 ·have hD : ∀ n,H.D n→({ H with k:=H.k+1,sup:=H.sup.drop bm }:AH).D n∧ρ n=ρ n:=by
   intro n hn
   refine ⟨?_,rfl⟩
   rcases hn with hn | ⟨h1,h2⟩
   ·exact .inl hn
   ·exact .inr ⟨h1,by show n.i<H.k+1; omega⟩
  refine ⟨⟨?_,hw.lt,hw.inj,?_,?_⟩,?_,⟨hD,Nat.le_refl _,fun _ _ _=>rfl,fun n o hn hl _=>⟨n,o,hn,hl,rfl⟩,by show H.k≤H.k+1; omega,rfl,rfl⟩⟩
  ·intro n o hn
   refine objAt_other (hw.obj n o hn) hD (AH.D_of hn) rfl ?_ ?_
   ·intro r mp it seen c he
    subst he
    obtain ⟨es,clock,sb,h1,h2,h3,h4,_⟩:=hw.obj n _ hn
    exact ⟨AH.D_of h3,rfl,rfl⟩
   ·intro k he; subst he; exact hw.io n k hn
  ·intro n h1 h2
   exact hw.tmp n h1 (by have:H.k+1<n.i:=h2; omega)
  ·intro n k hn
   exact (hD k (hw.io n k hn)).1
  ·intro j
   exact hw.tmp ⟨0,H.k+1,j⟩ rfl (by show H.k<H.k+1; omega)
theorem PClean.mono_set {U:List Nat} {n:Nm} {o o':AO} (h:PClean H U) (hn:H.f n=some o):PClean (H.set n o') U:=by
 intro j hj
 have:=h j hj
 show (H.set n o').f ⟨0,H.k,j⟩=none
 rw [AH.set_ne]
 ·exact this
 ·intro he; rw [← he,this] at hn; cases hn
theorem nm_fresh {U:List Nat} {q:Nat} (h:PClean H U) (hq:q ∉ U) (hok:H.nmOk q) : ¬ H.D (H.nm q)∧((H.nm q).t=0→(H.nm q).i≤H.k):=by
 unfold AH.nm AH.nmOk at *
 cases hs:H.sup[q]? with
 | some n =>
  simp only [hs] at hok ⊢
  refine ⟨?_,fun h0=>absurd h0 hok.1⟩
  rintro (hd | ⟨hd,_⟩)
  ·exact hd hok.2
  ·exact hok.1 hd
 | none =>
  simp only [hs]
  refine ⟨?_,fun _=>Int.le_refl _⟩
  rintro (hd | ⟨_,hd⟩)
  ·exact hd (h q (fun u hu he=>hq ((show u=q by omega) ▸ hu)))
  ·simp at hd
theorem PClean.new {U:List Nat} {q:Nat} {o:AO} (h:PClean H U) (hok:H.nmOk q):PClean (H.set (H.nm q) o) (q::U):=by
 intro j hj
 show (H.set (H.nm q) o).f ⟨0,H.k,j⟩=none
 have h1:=h j (fun u hu=>hj u (by simp [hu]))
 rw [AH.set_ne]
 ·exact h1
 ·intro he
  unfold AH.nm AH.nmOk at *
  cases hs:H.sup[q]? with
  | some n=>simp only [hs] at he hok; rw [← he] at hok; exact hok.1 rfl
  | none =>
   simp only [hs] at he
   have:j=q:=by injection he
   exact hj q (by simp) this.symm
end
end Go.Ab

namespace Go.Ab
open Go
section
variable {P : Program} {ρ : Nm → Loc} {H H' : AH} {w w' : World} {t : Fr} {a : Act} {o : Oper} {v : AV} {next : Act → World → Prop} {Q : Exit → Act → World → Prop}
theorem eff_sound {i:AI} {nm:Nat→Nm} (hw:HRel ρ H w) (ht:TRel ρ H.D t a) (hn : ∀ q,i.q=some q → ¬ H.D (nm q)∧((nm q).t=0→(nm q).i≤H.k))
  (hc:chkEff P o.op i=true) (hv:effV nm H t i=some (v,H')):Effs P ρ H w a o v H':=by
 cases i
 case st=>exact e_st hw ht hc hv
 case stn=>exact e_stn hw ht hc hv
 case alc=>exact e_alc hw (hn _ rfl).1 (hn _ rfl).2 hc hv
 case box=>exact e_box hw ht (hn _ rfl).1 (hn _ rfl).2 hc hv
 case bsl=>exact e_bsl hw ht (hn _ rfl).1 (hn _ rfl).2 hc hv
 case mkm=>exact e_mkm hw (hn _ rfl).1 (hn _ rfl).2 hc hv
 case mupd=>exact e_mupd hw ht hc hv
 case est=>exact e_est hw ht hc hv
 case del=>exact e_del hw ht hc hv
 case app=>exact e_app hw ht (hn _ rfl).1 (hn _ rfl).2 hc hv
 case acas=>exact e_acas hw ht hc hv
 case clr=>exact e_clr hw ht hc hv
 all_goals simp [effV] at hv
theorem nmOk_set {q:Nat} {n:Nm} {x x':AO} (h:H.nmOk q) (hf:H.f n=some x):(H.set n x').nmOk q:=by
 unfold AH.nmOk at h ⊢
 show (match H.sup[q]? with | some m=>m.t≠0∧(H.set n x').f m=none | none=>True)
 cases hs:H.sup[q]? with
 | none=>trivial
 | some m =>
  simp only [hs] at h ⊢
  refine ⟨h.1,?_⟩
  rw [AH.set_ne]
  ·exact h.2
  ·intro he; rw [he,hf] at h; exact absurd h.2 (by simp)
theorem effV_clean {i:AI} {U:List Nat} (h:PClean H U) (hok : ∀ q,i.q=some q→H.nmOk q) (hcall : ∀ f args,i≠.call f args) (hv:effV H.nm H t i=some (v,H')):PClean H' (usedBy i U):=by
 have weak : ∀ q,PClean H' U→PClean H' (q::U):=fun q h j hj=>h j fun u hu=>hj u (by simp [hu])
 cases i
 case call f args=>exact absurd rfl (hcall f args)
 case st x u =>
  simp only [effV] at hv
  split at hv
  ·split at hv
   ·rename_i hf
    split at hv
    ·simp only [Option.some.injEq,Prod.mk.injEq] at hv; obtain ⟨_,rfl⟩:=hv; exact h.mono_set hf
    ·cases hv
   ·cases hv
  ·cases hv
 case stn x u k =>
  simp only [effV] at hv
  split at hv
  ·split at hv
   ·rename_i hf
    split at hv
    ·simp only [Option.some.injEq,Prod.mk.injEq] at hv; obtain ⟨_,rfl⟩:=hv; exact h.mono_set hf
    ·cases hv
   ·cases hv
  ·cases hv
 case alc q z =>
  simp only [effV,Option.some.injEq,Prod.mk.injEq] at hv; obtain ⟨_,rfl⟩:=hv; exact h.new (hok q rfl)
 case box q x =>
  simp only [effV] at hv
  split at hv
  ·simp only [Option.some.injEq,Prod.mk.injEq] at hv; obtain ⟨_,rfl⟩:=hv; exact h.new (hok q rfl)
  ·cases hv
 case bsl q z ps l e =>
  simp only [effV] at hv
  split at hv
  ·split at hv
   ·simp only [Option.some.injEq,Prod.mk.injEq] at hv; obtain ⟨_,rfl⟩:=hv; exact h.new (hok q rfl)
   ·cases hv
  ·cases hv
 case mkm q r =>
  simp only [effV,Option.some.injEq,Prod.mk.injEq] at hv; obtain ⟨_,rfl⟩:=hv; exact h.new (hok q rfl)
 case mupd r m k x =>
  simp only [effV] at hv
  split at hv
  ·split at hv
   ·rename_i hf
    split at hv
    ·simp only [Option.some.injEq,Prod.mk.injEq] at hv; obtain ⟨_,rfl⟩:=hv; exact h.mono_set hf
    ·cases hv
   ·rename_i hf
    split at hv
    ·split at hv
     ·simp only [Option.some.injEq,Prod.mk.injEq] at hv; obtain ⟨_,rfl⟩:=hv; exact h.mono_set hf
     ·cases hv
    ·cases hv
   ·cases hv
  ·cases hv
 case est m s x =>
  simp only [effV] at hv
  split at hv
  ·split at hv
   ·rename_i hf
    split at hv
    ·simp only [Option.some.injEq,Prod.mk.injEq] at hv; obtain ⟨_,rfl⟩:=hv; exact h.mono_set hf
    ·cases hv
   ·cases hv
  ·cases hv
 case del r m k =>
  simp only [effV] at hv
  split at hv
  ·split at hv
   ·rename_i hf
    split at hv
    ·simp only [Option.some.injEq,Prod.mk.injEq] at hv; obtain ⟨_,rfl⟩:=hv; exact h.mono_set hf
    ·cases hv
   ·rename_i hf
    split at hv
    ·simp only [Option.some.injEq,Prod.mk.injEq] at hv; obtain ⟨_,rfl⟩:=hv; exact h.mono_set hf
    ·cases hv
   ·cases hv
  ·simp only [Option.some.injEq,Prod.mk.injEq] at hv; obtain ⟨_,rfl⟩:=hv; exact h
  ·cases hv
 case app q s x e =>
  simp only [effV] at hv
  split at hv
  ·split at hv
   ·cases hv
   ·split at hv
    ·split at hv
     ·simp only [Option.some.injEq,Prod.mk.injEq] at hv; obtain ⟨_,rfl⟩:=hv; exact weak q h
     ·simp only [Option.some.injEq,Prod.mk.injEq] at hv; obtain ⟨_,rfl⟩:=hv; exact h.new (hok q rfl)
    ·split at hv
     ·rename_i hf
      split at hv
      ·split at hv
       ·simp only [Option.some.injEq,Prod.mk.injEq] at hv; obtain ⟨_,rfl⟩:=hv; exact weak q h
       ·simp only [Option.some.injEq,Prod.mk.injEq] at hv; obtain ⟨_,rfl⟩:=hv
        have h1:=h.mono_set (o':=.dead) hf
        exact h1.new (nmOk_set (hok q rfl) hf)
      ·cases hv
     ·cases hv
    ·cases hv
  ·cases hv
 case acas x u y =>
  simp only [effV] at hv
  split at hv
  ·split at hv
   ·rename_i hf
    split at hv
    ·split at hv
     ·split at hv
      ·simp only [Option.some.injEq,Prod.mk.injEq] at hv; obtain ⟨_,rfl⟩:=hv; exact h.mono_set hf
      ·simp only [Option.some.injEq,Prod.mk.injEq] at hv; obtain ⟨_,rfl⟩:=hv; exact h
     ·cases hv
    ·cases hv
   ·cases hv
  ·cases hv
 case clr x =>
  simp only [effV] at hv
  split at hv
  ·simp only [Option.some.injEq,Prod.mk.injEq] at hv; obtain ⟨_,rfl⟩:=hv; exact h
  ·split at hv
   ·simp only [Option.some.injEq,Prod.mk.injEq] at hv; obtain ⟨_,rfl⟩:=hv; exact h
   ·split at hv
    ·rename_i hf
     split at hv
     ·simp only [Option.some.injEq,Prod.mk.injEq] at hv; obtain ⟨_,rfl⟩:=hv; exact h.mono_set hf
     ·cases hv
    ·cases hv
  ·cases hv
 all_goals simp [effV] at hv
theorem nxt_run {it n:Nm} {r:Nat} {m:List Int→Option AV} {seen:List (List Int)} {c:Nat} {ty:TypeId} (hw:HRel ρ H w) (hit:H.f it=some (.itr n)) (hn:H.f n=some (.mpi r m it seen c)) :
  (∃ key v k v' w' ρ',m key=some v∧key.length=r∧key ∉ seen∧0<c∧(Instr.next (.pointer (some ⟨(ρ it).b,0,none⟩)) false ty).run P w=.ok (.tuple #[.bool true,k,v']) w' ∧
   HRel ρ' (H.set n (.mpi r m it (key::seen) (c-1))) w'∧Ext ρ ρ' H (H.set n (.mpi r m it (key::seen) (c-1))) w w') ∨
  ((∀ key v,m key=some v→key∈seen)∧(Instr.next (.pointer (some ⟨(ρ it).b,0,none⟩)) false ty).run P w=.ok (.tuple #[.bool false]) w):=by
 obtain ⟨es,clock,sb,h1,h2,h3,h4,h5,h6,h7,h8⟩:=hw.obj n _ hn
 have hne:(ρ it).b≠(ρ n).b:=fun he=>by
  have:=hw.inj it n _ _ hit hn rfl rfl he
  subst this; rw [hn] at hit; cases hit
 have hitn:it≠n:=fun he=>hne (by rw [he])
 have hbefore:(!sb.isEmpty && !es.isEmpty&&es.all fun e=>decide (e.born ≥ clock))=false:=by
  cases hes:es.isEmpty with
  | true=>simp
  | false =>
   have hne':es ≠ #[]:=by simpa using hes
   have hall:(es.all fun e=>decide (e.born ≥ clock))=false:=by
    cases hal:es.all fun e=>decide (e.born ≥ clock) with
    | false=>rfl
    | true =>
     exfalso
     rw [Array.all_eq_true_iff_forall_mem] at hal
     obtain ⟨e,he⟩:=Array.exists_mem_of_ne_empty _ hne'
     have:=hal e he
     have h9:=h2.born e (by simpa using he)
     simp at this; omega
   simp [hall]
 obtain ⟨left,hl⟩ : ∃ left,left=es.filter (fun (e:MapEntry) => !sb.contains e.born):=⟨_,rfl⟩
 have hmemL : ∀ e∈left,e∈es.toList∧sb.contains e.born=false:=by
  intro e he
  rw [hl,Array.mem_filter] at he
  exact ⟨by simpa using he.1,by simpa using he.2⟩
 have hnew:(left.filter fun (e:MapEntry)=>decide (e.born ≥ clock)) = #[]:=by
  rw [Array.filter_eq_empty_iff]
  intro e he
  have:=h2.born e (hmemL e he).1
  simp; omega
 have hold:(left.filter fun (e:MapEntry)=>decide (e.born<clock))=left:=by
  rw [Array.filter_eq_self]
  intro e he
  have:=h2.born e (hmemL e he).1
  simpa using this
 have hobjIt:(getObj (ρ it).b).run P w=.ok (.mapIter (some (ρ n).b) clock sb clock) w:=by simp [getObj,Sem.run,h4]
 have hobjN:(getObj (ρ n).b).run P w=.ok (.map es clock) w:=getObj_map h1
 by_cases hleft:left = #[]
 ·right
  refine ⟨?_,?_⟩
  ·intro key v hm
   obtain ⟨e,he,hk⟩:=h2.bwd key v hm
   refine (h5 e he key hk).1 ?_
   rw [hl,Array.filter_eq_empty_iff] at hleft
   simpa using hleft e (by simpa using he)
  ·simp only [Instr.next,Sem.run_bind,hobjIt,Result.andThen_ok,hobjN,hbefore,Bool.false_eq_true,if_false,← hl,hold,hnew]
   simp [hleft,choose,Sem.run,Question.forced]
 ·left
  have hemp:left.isEmpty=false:=by simpa using hleft
  have hpos:0<left.size:=by
   rcases Nat.eq_zero_or_pos left.size with h | h
   ·exact absurd (Array.eq_empty_of_size_eq_zero h) hleft
   ·exact h
  obtain ⟨k,w1,hk,hklt,hheap,hos⟩ : ∃ k w1,(choose (.mapNext left.size)).run P w=.ok k w1∧k<left.size∧w1.heap=w.heap∧w1.os=w.os∧w1.output=w.output:=by
   rw [run_choose]
   split
   ·exact ⟨0,w,rfl,hpos,rfl,rfl,rfl⟩
   ·exact ⟨_,_,rfl,Nat.mod_lt _ hpos,rfl,rfl,rfl⟩
  obtain ⟨hmem,hns⟩:=hmemL _ (Array.getElem_mem hklt)
  obtain ⟨key,v,q1,q2,q3,q4⟩:=h2.fwd _ hmem
  have hkns:key ∉ seen:=fun hk'=>by
   have:=(h5 _ hmem key q2).2 hk'
   rw [hns] at this; cases this
  have hfl:(es.toList.filter fun (e:MapEntry) => !sb.contains e.born)=left.toList:=by rw [hl]; simp
  have hc0:0<c:=by
   rw [hfl] at h6
   have:left.toList.length=left.size:=by simp
   omega
  have hw1:HRel ρ H w1:=hw.heap_eq hheap
  refine ⟨key,v,left[k].key,left[k].val,World.setBlk w1 (ρ it).b (.mapIter (some (ρ n).b) clock (sb.push left[k].born) clock),ρ,q3,q1,hkns,hc0,?_,?_⟩
  ·have hset:(setObj (ρ it).b (.mapIter (some (ρ n).b) clock (sb.push left[k].born) clock)).run P w1=.ok () (World.setBlk w1 (ρ it).b (.mapIter (some (ρ n).b) clock (sb.push left[k].born) clock)):=by
    simp [setObj,Sem.run,hheap,h4,World.setBlk]
   simp only [Instr.next,Sem.run_bind,hobjIt,Result.andThen_ok,hobjN,hbefore,Bool.false_eq_true,if_false,← hl,hold,hnew,hemp,Array.empty_append,Array.append_empty,Array.size_map,hk]
   have:(left.map some)[k]? = some (some left[k]):=by simp [hklt]
   simp only [this,Sem.run_bind,hset,Result.andThen_ok,Sem.run_pure]
  ·
   have hDn:H.D n:=AH.D_of hn
   have hD:(H.set n (.mpi r m it (key::seen) (c-1))).D=H.D:=AH.set_D hDn
   have hsz:(World.setBlk w1 (ρ it).b (.mapIter (some (ρ n).b) clock (sb.push left[k].born) clock)).heap.size=w.heap.size:=by rw [setBlk_size,hheap]
   have hoth : ∀ b,b≠(ρ it).b→(World.setBlk w1 (ρ it).b (.mapIter (some (ρ n).b) clock (sb.push left[k].born) clock)).heap[b]? = w.heap[b]? := fun b hb=>by rw [setBlk_ne _ hb,hheap]
   have hsame:(World.setBlk w1 (ρ it).b (.mapIter (some (ρ n).b) clock (sb.push left[k].born) clock)).heap[(ρ it).b]? = some (.mapIter (some (ρ n).b) clock (sb.push left[k].born) clock):=setBlk_same (by rw [hheap]; exact h4)
   have hborn : ∀ e∈es.toList,e.born=left[k].born→e=left[k]:=by
    intro e he hb
    have hp:=h2.binj
    obtain ⟨i,hi,rfl⟩:=List.getElem_of_mem he
    obtain ⟨j,hj,hje⟩:=List.getElem_of_mem hmem
    rcases Nat.lt_trichotomy i j with hij | hij | hij
    ·exact absurd (by rw [hb,hje]) (List.pairwise_iff_getElem.1 hp i j hi hj hij)
    ·subst hij; exact hje
    ·exact absurd (by rw [hb,hje]) (List.pairwise_iff_getElem.1 hp j i hj hi hij)
   refine ⟨⟨?_,?_,?_,?_,?_⟩,⟨fun x hx=>⟨by rw [hD]; exact hx,rfl⟩,Nat.le_of_eq hsz.symm,?_,?_,Int.le_refl _,hos⟩⟩
   ·intro x ox hx
    by_cases hxn:x=n
    ·subst hxn
     rw [AH.set_same] at hx; cases hx
     refine ⟨es,clock,sb.push left[k].born,by rw [hoth _ (Ne.symm hne)]; exact h1,by rw [hD]; exact h2,by rw [AH.set_ne H _ hitn]; exact h3,hsame,?_,?_,?_,by simp⟩
     ·intro e he key' hk'
      rw [List.mem_cons]
      constructor
      ·intro hcont
       simp only [Array.contains_push,Bool.or_eq_true,beq_iff_eq] at hcont
       rcases hcont with hc' | hc'
       ·exact .inr ((h5 e he key' hk').1 hc')
       ·left
        have:=hborn e he hc'
        subst this
        exact rkey_inj hk' q2
      ·intro hor
       simp only [Array.contains_push,Bool.or_eq_true,beq_iff_eq]
       rcases hor with rfl | hs
       ·right
        rw [q2] at hk'
        have hp:=h2.inj
        obtain ⟨i,hi,rfl⟩:=List.getElem_of_mem he
        obtain ⟨j,hj,hje⟩:=List.getElem_of_mem hmem
        rcases Nat.lt_trichotomy i j with hij | hij | hij
        ·exact absurd (by rw [hje]; exact (Option.some.inj hk').symm) (List.pairwise_iff_getElem.1 hp i j hi hj hij)
        ·subst hij; rw [hje]
        ·exact absurd (by rw [hje]; exact Option.some.inj hk') (List.pairwise_iff_getElem.1 hp j i hj hi hij)
       ·exact .inl ((h5 e he key' hk').2 hs)
     ·
      have hsub:(es.toList.filter fun (e:MapEntry) => !(sb.push left[k].born).contains e.born).length+1≤(es.toList.filter fun (e:MapEntry) => !sb.contains e.born).length:=by
       have hmk:left[k]∈es.toList.filter (fun (e:MapEntry) => !sb.contains e.born):=by rw [hfl]; simp
       have h9:(es.toList.filter fun (e:MapEntry) => !(sb.push left[k].born).contains e.born)=(es.toList.filter fun (e:MapEntry) => !sb.contains e.born).filter fun (e:MapEntry) => !(e.born==left[k].born):=by
        rw [List.filter_filter]
        congr 1; funext e
        simp only [Array.contains_push]
        cases sb.contains e.born <;> cases (e.born==left[k].born) <;> rfl
       rw [h9]
       have h10:=List.length_filter_lt_length_iff_exists (p:=fun (e:MapEntry) => !(e.born==left[k].born)) (l:=es.toList.filter fun (e:MapEntry) => !sb.contains e.born)
       have:=h10.2 ⟨left[k],hmk,by simp⟩
       omega
      omega
     ·intro key' rest hse e he hk'
      simp only [List.cons.injEq] at hse
      obtain ⟨rfl,rfl⟩:=hse
      have:e=left[k]:=by
       rw [q2] at hk'
       have hp:=h2.inj
       obtain ⟨i,hi,rfl⟩:=List.getElem_of_mem he
       obtain ⟨j,hj,hje⟩:=List.getElem_of_mem hmem
       rcases Nat.lt_trichotomy i j with hij | hij | hij
       ·exact absurd (by rw [hje]; exact (Option.some.inj hk').symm) (List.pairwise_iff_getElem.1 hp i j hi hj hij)
       ·subst hij; exact hje
       ·exact absurd (by rw [hje]; exact Option.some.inj hk') (List.pairwise_iff_getElem.1 hp j i hj hi hij)
      subst this; simp
    ·rw [AH.set_ne H _ hxn] at hx
     by_cases hxi:x=it
     ·subst hxi
      rw [hit] at hx; cases hx
      exact ⟨clock,sb.push left[k].born,clock,hsame⟩
     ·by_cases hlx:ox.live=true
      ·refine objAt_other (hw.obj x ox hx) (fun y hy=>⟨by rw [hD]; exact hy,rfl⟩) (AH.D_of hx) (hoth _ fun he=>hxi (hw.inj x it ox _ hx hit hlx rfl he)) ?_ ?_
       ·intro r' mp' it' seen' c' he
        subst he
        obtain ⟨es',clock',sb',g1,g2,g3,g4,_⟩:=hw.obj x _ hx
        have hii:it'≠it:=fun he=>by subst he; rw [hit] at g3; simp at g3; exact hxn g3.symm
        have hin:it'≠n:=fun he=>by subst he; rw [hn] at g3; cases g3
        exact ⟨AH.D_of g3,AH.set_ne H _ hin,hoth _ fun he=>hii (hw.inj it' it _ _ g3 hit rfl rfl he)⟩
       ·intro y he; subst he; exact hw.io x y hx
      ·cases ox <;> simp [AO.live] at hlx
       trivial
   ·intro x ox hx hlx
    rw [hsz]
    by_cases hxn:x=n
    ·subst hxn; exact hw.lt x _ hn rfl
    ·rw [AH.set_ne H _ hxn] at hx; exact hw.lt x ox hx hlx
   ·intro x1 x2 o1 o2 g1 g2 l1 l2 he
    have lv : ∀ x ox,(H.set n (.mpi r m it (key::seen) (c-1))).f x=some ox→ox.live=true → ∃ ox',H.f x=some ox'∧ox'.live=true:=by
     intro x ox hx hlx
     by_cases hxn:x=n
     ·subst hxn; exact ⟨_,hn,rfl⟩
     ·rw [AH.set_ne H _ hxn] at hx; exact ⟨ox,hx,hlx⟩
    obtain ⟨o1',k1,k2⟩:=lv x1 o1 g1 l1
    obtain ⟨o2',k3,k4⟩:=lv x2 o2 g2 l2
    exact hw.inj x1 x2 o1' o2' k1 k3 k2 k4 he
   ·intro x hx hk'
    by_cases hxn:x=n
    ·subst hxn; have:=hw.tmp x hx hk'; rw [hn] at this; cases this
    ·rw [AH.set_ne H _ hxn]; exact hw.tmp x hx hk'
   ·intro x y hx
    rw [hD]
    by_cases hxn:x=n
    ·subst hxn; rw [AH.set_same] at hx; cases hx
    ·rw [AH.set_ne H _ hxn] at hx; exact hw.io x y hx
   ·intro b hb hlb
    exact hoth b fun he=>hlb it _ hit rfl he.symm
   ·intro x ox hx hlx hb
    by_cases hxn:x=n
    ·subst hxn; exact ⟨x,_,hn,rfl,rfl⟩
    ·rw [AH.set_ne H _ hxn] at hx; exact ⟨x,ox,hx,hlx,rfl⟩
end
end Go.Ab

namespace Go.Ab
open Go
def Fe (ro:Option Nat):Fence:={ fn:=fun _=>True,depth:=none,alive:=false,round:=ro }
theorem callsFe {ro:Option Nat} {n:Nat} {P:Program} {f:FuncId} {args:Array Value} {w:World} {R:Ending→World→Prop}:CallsIn (Fe ro) n P f args w R↔Calls P f args w R:=callsIn_wide (n:=n)
theorem chkA_defer {P:Program} {c:Call} {i:AI} (hi:i≠.pan):chkA P (.defer c) i=false:=by
 cases i <;> first | exact absurd rfl hi | simp [chkA,chkPure,chkEff]
theorem semFe {P:Program} {o:Oper} {i:AI} (hc:chkA P o.op i=true) (hi:i≠.pan) (ro:Option Nat) (r:Operand→Value):o.semAt (Fe ro).round r=execOp r o :=
 Oper.semAt_eq _ r o fun c e=>by rw [e,chkA_defer hi] at hc; cases hc
section
variable {ro : Option Nat} {P : Program} {ρ : Nm → Loc} {H H' : AH} {w w' : World} {t : Fr} {a : Act} {o : Oper} {v : AV} {next : Act → World → Prop} {Q : Exit → Act → World → Prop}
theorem range_map_run {T:TypeId} {n:Nat} {es:Array MapEntry} {clock:Nat} {k e:TypeId} (hu:P.underlying T=some (.map k e)) (hb:w.heap[n]? = some (.map es clock)) :
  (Instr.range T (.map (some n))).run P w=.ok (.pointer (some ⟨w.heap.size,0,none⟩)) { w with heap:=w.heap.push (.mapIter (some n) clock #[] clock) }:=by
 simp [Instr.range,run_underlying hu,getObj_map hb]
theorem range_nil_run {T:TypeId} {k e:TypeId} (hu:P.underlying T=some (.map k e)) :
  (Instr.range T (.map none)).run P w=.ok (.pointer (some ⟨w.heap.size,0,none⟩)) { w with heap:=w.heap.push (.mapIter none 0 #[] 0) }:=by
 simp [Instr.range,run_underlying hu]
theorem mapEntry_run {D:Nm→Prop} {T kt et:TypeId} {r:Nat} {n:Nat} {m:List Int→Option AV} {es:Array MapEntry} {clock:Nat} {key:List Int} {u z:Value} {zero:AV} (hu:P.underlying T=some (.map kt et)) (hkt:keyT P kt r=true)
  (hb:w.heap[n]? = some (.map es clock)) (h:MRel ρ D r m es clock) (hk:rkey key=some u) (hl:key.length=r) (hz : ∀ w,(zeroValue et).run P w=.ok z w) (hzr:VRel ρ D zero z) :
  ∃ es' clock' e v',(Instr.mapEntry T (.map (some n)) u).run P w=.ok (.tuple #[v',.int .i64 (e.born:Int)]) (World.setBlk w n (.map es' clock'))∧VRel ρ D ((m key).getD zero) v' ∧
   MRel ρ D r (mset m key (some ((m key).getD zero))) es' clock'∧e∈es'.toList∧rkey key=some e.key:=by
 have hck:(Instr.checkKey false 10000 kt u).run P w=.ok () w:=checkKey_run hkt hk hl false 9998 w
 rcases find_known (P:=P) hkt h hk hl w with ⟨i,e,v',h1,h2,h3,h4,h5⟩ | ⟨h1,h2,h3⟩
 ·have hes:es[i]? = some e:=by simpa using h1
  have hput:=h.put_old h1 h2 hk hl h4
  have hmod:(es.modify i fun e=>{ e with key:=u })=es.modify i fun e'=>{ e' with key:=u,val:=e.val }:=by
   apply Array.ext_getElem?
   intro j
   rw [Array.getElem?_modify,Array.getElem?_modify]
   split
   ·rename_i hij; subst hij; rw [hes]; rfl
   ·rfl
  refine ⟨es.modify i fun e'=>{ e' with key:=u,val:=e.val },clock,{ e with key:=u },e.val,?_,by simpa [h3] using h4,by simpa [h3] using hput,?_,hk⟩
  ·simp only [Instr.mapEntry,Sem.run_bind,run_underlying hu,Result.andThen_ok,getObj_map hb,hck,h5,hes,Option.map_some,Option.getD_some,h2,keyStays hk,hmod,run_setObj_map hb,Sem.run_pure]
   rfl
  ·rw [Array.toList_modify]
   refine List.mem_of_getElem? (i:=i) ?_
   rw [List.getElem?_modify]
   simp [hes]
 ·refine ⟨es.push { key:=u,val:=z,born:=clock },clock+1,{ key:=u,val:=z,born:=clock },z,?_,by simpa [h2] using hzr,?_,by simp,hk⟩
  ·simp only [Instr.mapEntry,Sem.run_bind,run_underlying hu,Result.andThen_ok,getObj_map hb,hck,h3,hz,run_setObj_map hb,Sem.run_pure]
   rfl
  ·simpa [h2] using h.put_new h1 hk hl hzr
theorem Out_sound {i:AI} {bm:Nat} {U:List Nat} {J:Bool→AV→AH→Prop} (hc:chkA P o.op i=true) (h:Out P bm t H J i) (hw:HRel ρ H w) (ht:TRel ρ H.D t a) (hp:PClean H U)
  (hbm : ∀ f args,i=.call f args→bm=0→U=[]) (hq : ∀ q,i.q=some q→q ∉ U)
  (hnext : ∀ b v v' ρ' H' w',J b v H'→VRel ρ' H'.D v v'→HRel ρ' H' w'→Ext ρ ρ' H H' w w'→PClean H' (usedBy i U)→(b=false→H'=H)→next (a.put o.dst v') w') :
  Oper.wpIn (Fe ro) 0 P o a w next Q:=by
 have hpan:i≠.pan:=fun e=>by subst e; simp [Out,OutD,pureV,effV] at h
 have hsem:=semFe hc hpan ro a.eval
 have upn : ∀ nx v' w',(execOp a.eval o).run P w=.ok nx w'→(nx=.value v'∨(nx=.skip∧v'=undef))→next (a.put o.dst v') w'→Oper.wpIn (Fe ro) 0 P o a w next Q:=by
  intro nx v' w' h1 h2 h3
  refine ⟨fun _ _=>trivial,?_⟩
  rw [hsem,h1]
  rcases h2 with rfl | ⟨rfl,rfl⟩
  ·exact h3
  ·exact h3
 have dflt:(chkPure P o.op i||chkEff P o.op i)=true→(∀ f args,i≠.call f args)→(∀ q x,i≠.rng q x)→OutD t H J i→Oper.wpIn (Fe ro) 0 P o a w next Q:=by
  intro hc hnc hnr h
  unfold OutD at h
  cases hpv:pureV H t i with
  | some v =>
   simp only [hpv] at h
   have hcp:chkPure P o.op i=true:=by
    cases hcp:chkPure P o.op i with
    | true=>rfl
    | false =>
     exfalso
     simp [hcp] at hc
     cases i <;> simp [pureV] at hpv <;> cases hoo:o.op <;> simp [hoo,chkEff] at hc
   obtain ⟨v',h1,h2⟩:=pure_sound hw ht hcp hpv
   refine upn _ v' w h1 (.inl rfl) (hnext _ _ _ ρ H w h h2 hw (Ext.refl _ _ _) ?_ (fun _=>rfl))
   cases i <;> first | exact hp | (simp [pureV] at hpv)
  | none =>
   simp only [hpv] at h
   cases hev:effV H.nm H t i with
   | none=>simp only [hev] at h
   | some p =>
    obtain ⟨v,H'⟩:=p
    simp only [hev] at h
    have hce:chkEff P o.op i=true:=by
     cases hce:chkEff P o.op i with
     | true=>rfl
     | false =>
      exfalso
      simp [hce] at hc
      cases i <;> simp [effV] at hev <;> cases hoo:o.op <;> simp [hoo,chkPure] at hc
    obtain ⟨nx,v',w',ρ',h1,h2,h3,h4,h5⟩:=eff_sound (nm:=H.nm) hw ht (fun q hqq=>nm_fresh hp (hq q hqq) (h.1 q hqq)) hce hev
    exact upn _ v' w' h1 h2 (hnext _ _ _ ρ' H' w' h.2 h3 h4 h5 (effV_clean hp h.1 hnc hev) (fun hb=>by cases hb))
 cases i
 case call f args =>
  simp only [Out] at h
  cases hf:ev t f <;> simp only [hf] at h
  rename_i g caps
  obtain ⟨dst,op,ty,pos,aft,gg⟩:=o
  cases op <;> simp only [chkA,Bool.false_eq_true] at hc
  rename_i c
  obtain ⟨callee,as,ats⟩:=c
  cases callee <;> (try simp only [Bool.false_eq_true] at hc)
  rename_i y
  simp only [Bool.and_eq_true] at hc
  have hy:=chkX_rel ht hc.1
  have hargs:=chkXs_rel ht hc.2
  rw [hf] at hy
  simp only [VRel] at hy
  obtain ⟨cs,hy,hcaps⟩:=hy
  obtain ⟨⟨fn,hfn,hbody,hname⟩,hcall⟩:=h
  obtain ⟨c1,c2,c3⟩:=hp.call hw (hbm f args rfl)
  have hbody' : ∃ cd,fn.body=some cd:=by
   cases hb:fn.body with
   | none=>simp [hb] at hbody
   | some cd=>exact ⟨cd,rfl⟩
  obtain ⟨cd,hcd⟩:=hbody'
  have hrun:(execOp a.eval { dst,op:=.call { callee:=.value y,args:=as,argTypes:=ats },type:=ty,pos,after:=aft,guard:=gg }).run P w=.ok (.enter g (as.map a.eval++cs)) w:=by
   simp [execOp,resolve,hy,Deferred.ofValue,invoke,callFunc,hfn,hname,hcd]
  refine ⟨fun _ _=>trivial,?_⟩
  rw [hsem,hrun,Oper.uponIn_enter]
  refine ⟨fun h=>(by cases h),callsFe.2 ?_⟩
  have:=hcall ρ w (as.toList.map a.eval++cs.toList) c1 c2 ((hargs.append hcaps).mono c3.dom)
  have harr:(as.toList.map a.eval++cs.toList).toArray=as.map a.eval++cs:=by
   apply Array.ext'; simp
  rw [harr] at this
  refine this.mono ?_
  rintro e w' ⟨v,v',ρ',H',rfl,hj,hw',hcl',hv',hx'⟩
  exact hnext _ _ _ ρ' H' w' hj hv' hw' (c3.trans hx') (fun j _=>hcl' j) (fun hb=>by cases hb)
 case rng q x =>
  simp only [Out] at h
  obtain ⟨hok,h⟩:=h
  obtain ⟨dst,op,ty,pos,aft,gg⟩:=o
  cases op <;> simp only [chkA,Bool.false_eq_true] at hc
  rename_i T y
  simp only [Bool.and_eq_true] at hc
  obtain ⟨kt,et,hu⟩ : ∃ k e,P.underlying T=some (.map k e):=by
   have:=hc.1
   split at this
   ·exact ⟨_,_,by assumption⟩
   ·cases this
  have hy:=chkX_rel ht hc.2
  obtain ⟨hnD,hnk⟩:=nm_fresh hp (hq q rfl) hok
  cases hx:ev t x <;> simp only [hx] at h <;> rw [hx] at hy <;> simp only [VRel] at hy
  case map n =>
   cases hn:H.f n <;> simp only [hn] at h
   rename_i o1
   cases o1 <;> simp only at h
   rename_i r m
   obtain ⟨es,clock,hb,hrel⟩:=hw.obj n _ hn
   have hnq:n≠H.nm q:=fun he=>hnD (he ▸ AH.D_of hn)
   have hnqf:H.f (H.nm q)=none:=by
    cases hh:H.f (H.nm q) with
    | none=>rfl
    | some o=>exact absurd (AH.D_of hh) hnD
   have hlt:=hw.lt n _ hn rfl
   obtain ⟨e1,e2⟩:=hw.new (sz:=0) (n:=H.nm q) (o:=.itr n) (B:=.mapIter (some (ρ n).b) clock #[] clock) hnD hnk (by
    refine ⟨clock,#[],clock,?_⟩
    simp [hnq]) (fun k hk=>by cases hk; exact AH.D_of hn)
   have hρn:(if n=H.nm q then (⟨w.heap.size,0⟩:Loc) else ρ n)=ρ n:=if_neg hnq
   have hne:(ρ n).b≠w.heap.size:=Nat.ne_of_lt hlt
   have hDm:(H.set (H.nm q) (.itr n)).D n:=AH.set_D_mono (AH.D_of hn)
   have hfn:(H.set (H.nm q) (.itr n)).f n=some (.mp r m):=by rw [AH.set_ne H _ hnq]; exact hn
   have hbn:({ w with heap:=w.heap.push (.mapIter (some (ρ n).b) clock #[] clock) }:World).heap[(ρ n).b]? = some (.map es clock):=by
    simp [Array.getElem?_push,hne,hb]
   have hmono : ∀ x,H.D x→(H.set (H.nm q) (.itr n)).D x∧(if x=H.nm q then (⟨w.heap.size,0⟩:Loc) else ρ x)=ρ x:=e2.dom
   obtain ⟨e3,e4⟩:=e1.turn (w':={ w with heap:=w.heap.push (.mapIter (some (ρ n).b) clock #[] clock) }) (o':=.mpi r m (H.nm q) [] es.size) hfn rfl (by simp) (by simp) rfl (fun _ _=>rfl)
    ⟨es,clock,#[],by simp only [hρn]; exact hbn,by rw [AH.set_D hDm]; exact hrel.mono hmono,by rw [AH.set_ne _ _ (Ne.symm hnq)]; exact AH.set_same H _ _,by simp [hnq],
     by simp,Nat.le_trans (List.length_filter_le _ _) (by simp),by simp,by simp⟩
   have hcomm:(H.set (H.nm q) (.itr n)).set n (.mpi r m (H.nm q) [] es.size)=(H.set n (.mpi r m (H.nm q) [] es.size)).set (H.nm q) (.itr n):=by
    simp only [AH.set]; congr 1; funext x
    by_cases h1:x=n
    ·subst h1; simp [hnq]
    ·simp [h1]
   rw [hcomm] at e3 e4
   refine upn _ (.pointer (some ⟨w.heap.size,0,none⟩)) _ (by simp only [execOp,hy.2,Sem.run_bind,range_map_run hu hb,Result.andThen_ok,Sem.run_pure]) (.inl rfl) (hnext _ _ _ _ _ _ (h es.size) ?_ e3 (e2.trans e4) ?_ (fun hb=>by cases hb))
   ·simp only [VRel,if_true]
    exact ⟨AH.D_of (AH.set_same _ _ _),trivial⟩
   ·have:=(hp.mono_set (o':=.mpi r m (H.nm q) [] es.size) hn)
    exact this.new (nmOk_set hok hn)
  case nilm =>
   obtain ⟨e1,e2⟩:=hw.new (sz:=0) (n:=H.nm q) (o:=.itr0) (B:=.mapIter none 0 #[] 0) hnD hnk (by
    refine ⟨0,#[],0,?_⟩
    simp) (fun k hk=>by cases hk)
   refine upn _ (.pointer (some ⟨w.heap.size,0,none⟩)) _ (by simp only [execOp,hy,Sem.run_bind,range_nil_run hu,Result.andThen_ok,Sem.run_pure]) (.inl rfl) (hnext _ _ _ _ _ _ h ?_ e1 e2 (hp.new hok) (fun hb=>by cases hb))
   simp only [VRel,if_true]
   exact ⟨AH.D_of (AH.set_same _ _ _),trivial⟩
 case nxt x =>
  simp only [Out] at h
  obtain ⟨dst,op,ty,pos,aft,gg⟩:=o
  cases op <;> simp only [chkA,Bool.false_eq_true] at hc
  rename_i y isS
  cases isS <;> simp only [Bool.false_eq_true] at hc
  have hy:=chkX_rel ht hc
  cases hx:ev t x <;> simp only [hx] at h
  rename_i it off
  cases off <;> simp only at h
  rw [hx] at hy; simp only [VRel] at hy
  cases hit:H.f it <;> simp only [hit] at h
  rename_i o1
  cases o1 <;> simp only at h
  case itr n =>
   cases hn:H.f n <;> simp only [hn] at h
   rename_i o2
   cases o2 <;> simp only at h
   rename_i r m it' seen c
   obtain ⟨rfl,hyes,hno⟩:=h
   rcases nxt_run (P:=P) (ty:=ty) hw hit hn with ⟨key,v,k,v',w',ρ',q1,q2,q3,q4,q5,q6,q7⟩ | ⟨q1,q2⟩
   ·refine upn _ (.tuple #[.bool true,k,v']) w' (by simp only [execOp,hy.2,Sem.run_bind,q5,Result.andThen_ok,Sem.run_pure]) (.inl rfl) (hnext _ _ _ _ _ _ (hyes key v q1 q2 q3 q4) ?_ q6 q7 (hp.mono_set hn) (fun hb=>by cases hb))
    simp [VRel,VRels]
   ·obtain ⟨es,clock,sb,h1,h2,_⟩:=hw.obj n _ hn
    have hD:=AH.set_D (o:=.mp r m) (AH.D_of hn)
    obtain ⟨e1,e2⟩:=hw.turn (w':=w) (o':=.mp r m) hn rfl (by simp) (by simp) rfl (fun _ _=>rfl) ⟨es,clock,h1,by rw [hD]; exact h2⟩
    refine upn _ (.tuple #[.bool false]) w (by simp only [execOp,hy.2,Sem.run_bind,q2,Result.andThen_ok,Sem.run_pure]) (.inl rfl) (hnext _ _ _ _ _ _ (hno q1) ?_ e1 e2 (hp.mono_set hn) (fun hb=>by cases hb))
    simp [VRel,VRels]
  case itr0 =>
   obtain ⟨since,sb,st,h1⟩:=hw.obj it _ hit
   have hob:(getObj (ρ it).b).run P w=.ok (.mapIter none since sb st) w:=by simp [getObj,Sem.run,h1]
   refine upn _ (.tuple #[.bool false]) w (by simp only [execOp,hy.2,Instr.next,Sem.run_bind,hob,Result.andThen_ok,Sem.run_pure]) (.inl rfl) (hnext _ _ _ ρ H w h ?_ hw (Ext.refl _ _ _) hp (fun hb=>by cases hb))
   simp [VRel,VRels]
 case ment r m k zero =>
  simp only [Out] at h
  obtain ⟨dst,op,ty,pos,aft,gg⟩:=o
  cases op <;> simp only [chkA,Bool.false_eq_true] at hc
  rename_i T y z
  simp only [Bool.and_eq_true] at hc
  have hy:=chkX_rel ht hc.1.2
  have hz:=chkX_rel ht hc.2
  cases hmt:mapT P T r with
  | none=>simp [hmt] at hc
  | some ke =>
  obtain ⟨kt,et⟩:=ke
  have hzt:=hc.1.1
  simp only [hmt] at hzt
  obtain ⟨hu,hkt⟩:=mapT_run hmt
  obtain ⟨zv,hzr,hzrun⟩:=zero1T_run (ρ:=ρ) (D:=H.D) hzt
  cases hm:ev t m <;> simp only [hm] at h
  rename_i n
  cases hk:keyOf r (ev t k) <;> simp only [hk] at h
  rename_i key
  obtain ⟨hrk,hlen⟩:=keyOf_rel hk hz
  rw [hm] at hy; simp only [VRel] at hy
  cases hn:H.f n <;> simp only [hn] at h
  rename_i o1
  cases o1 <;> simp only at h
  rename_i r' mp
  obtain ⟨rfl,h⟩:=h
  obtain ⟨es,clock,hb,hrel⟩:=hw.obj n _ hn
  obtain ⟨es',clock',e,v',q1,q2,q3,q4,q5⟩:=mapEntry_run hu hkt hb hrel hrk hlen hzrun hzr
  have hDD : ∀ o',(H.set n o').D=H.D:=fun o'=>AH.set_D (AH.D_of hn)
  obtain ⟨e1,e2⟩:=hw.turn (w':=World.setBlk w (ρ n).b (.map es' clock')) (o':=.mpb r' (mset mp key (some ((mp key).getD zero))) key e.born) hn rfl (by simp) (by simp) (setBlk_size ..) (fun b hb'=>setBlk_ne _ hb')
   ⟨es',clock',setBlk_same hb,by rw [hDD]; exact q3,e,q4,q5,rfl⟩
  refine upn _ (.tuple #[v',.int .i64 (e.born:Int)]) _ (by simp only [execOp,hy.2,Sem.run_bind,q1,Result.andThen_ok,Sem.run_pure]) (.inl rfl) (hnext _ _ _ _ _ _ (h e.born) ?_ e1 e2 (hp.mono_set hn) (fun hb=>by cases hb))
  simp only [VRel,VRels,hDD]
  exact ⟨_,rfl,q2,rfl,trivial⟩
 case pan=>simp [Out,OutD,pureV,effV] at h
 all_goals (simp only [Out] at h; exact dflt (by simpa only [chkA] using hc) (by simp) (by simp) h)
end
end Go.Ab

namespace Go.Ab
open Go
def X.slots:X→List Nat
 | .s n=>[n]
 | .c _=>[]
def xsl (l:List X):List Nat:=l.flatMap X.slots
def psl (l:List (Nat × Nat × X)):List Nat:=l.flatMap fun p=>p.2.2.slots
def osl:Option X→List Nat
 | some x=>x.slots
 | none=>[]
def AI.slots:AI→List Nat
 | .mov x | .ld x | .ldn x _ | .chk x | .not x | .neg x | .conv _ x | .fa x _ | .fld x _ | .fldn x _ _ | .ext x _ | .box _ x | .len x | .slen x | .rng _ x | .nxt x | .ent x | .aload x | .clr x=>x.slots
 | .pick c a b=>c.slots++(a.slots++b.slots)
 | .st a v | .stn a v _=>a.slots++v.slots
 | .bin _ x y | .eq _ _ x y=>x.slots++y.slots
 | .ix x i _ | .ixa x i _ _ | .idx x i _ | .idxn x i _ _ | .strix x i=>x.slots++i.slots
 | .bld _ p | .bsl _ _ p _ _=>psl p
 | .alc _ _ | .mkm _ _ | .lent _ | .pan=>[]
 | .mkf _ c=>xsl c
 | .look _ m k _ _ | .ment _ m k _ | .del _ m k=>m.slots++k.slots
 | .mupd _ m k v=>m.slots++(k.slots++v.slots)
 | .est m s v=>m.slots++(s.slots++v.slots)
 | .call f a=>f.slots++xsl a
 | .app _ s x _=>s.slots++x.slots
 | .mn xs | .mx xs=>xsl xs
 | .slc x l h _=>x.slots++(osl l++osl h)
 | .sslc x l h=>x.slots++(osl l++osl h)
 | .acas x o n=>x.slots++(o.slots++n.slots)
 | .add64 x y c=>x.slots++(y.slots++c.slots)
section
variable {t t' : Fr}
theorem ev_congr {x:X} (h : ∀ s∈x.slots,t s=t' s):ev t x=ev t' x:=by
 cases x with
 | s n=>exact h n (by simp [X.slots])
 | c v=>rfl
theorem evs_congr {l:List X} (h : ∀ s∈xsl l,t s=t' s):evs t l=evs t' l:=by
 unfold evs
 exact List.map_congr_left fun x hx=>ev_congr fun s hs=>h s (List.mem_flatMap.2 ⟨x,hx,hs⟩)
theorem evo_congr {l:Option X} (h : ∀ s∈osl l,t s=t' s):l.map (ev t)=l.map (ev t'):=by
 cases l with
 | none=>rfl
 | some x=>simp only [Option.map_some]; rw [ev_congr h]
theorem fillP_congr : ∀ {l:List (Nat × Nat × X)} {z:List AV},(∀ s∈psl l,t s=t' s)→fillP t z l=fillP t' z l
 | [],_,_=>rfl
 | (off,n,x)::r,z,h=>by
  have h1:ev t x=ev t' x:=ev_congr fun s hs=>h s (List.mem_flatMap.2 ⟨(off,n,x),by simp,hs⟩)
  have h2 : ∀ z,fillP t z r=fillP t' z r:=fun z=>fillP_congr fun s hs=>h s (by
   obtain ⟨p,hp,hs⟩:=List.mem_flatMap.1 hs
   exact List.mem_flatMap.2 ⟨p,by simp [hp],hs⟩)
  simp only [fillP,h1,h2]
theorem pureV_congr {H:AH} {a:AI} (h : ∀ s∈a.slots,t s=t' s):pureV H t a=pureV H t' a:=by
 cases a <;> simp only [AI.slots,List.mem_append] at h <;> simp only [pureV]
 case pick c a b=>rw [ev_congr (x:=c) fun s hs=>h s (.inl hs),ev_congr (x:=a) fun s hs=>h s (.inr (.inl hs)),ev_congr (x:=b) fun s hs=>h s (.inr (.inr hs))]
 case bld z p=>rw [fillP_congr h]
 case mkf f c=>rw [evs_congr h]
 case mn xs=>rw [evs_congr h]
 case mx xs=>rw [evs_congr h]
 case slc x l hh e=>rw [ev_congr (x:=x) fun s hs=>h s (.inl hs),evo_congr (l:=l) fun s hs=>h s (.inr (.inl hs)),evo_congr (l:=hh) fun s hs=>h s (.inr (.inr hs))]
 case sslc x l hh=>rw [ev_congr (x:=x) fun s hs=>h s (.inl hs),evo_congr (l:=l) fun s hs=>h s (.inr (.inl hs)),evo_congr (l:=hh) fun s hs=>h s (.inr (.inr hs))]
 case add64 x y c=>rw [ev_congr (x:=x) fun s hs=>h s (.inl hs),ev_congr (x:=y) fun s hs=>h s (.inr (.inl hs)),ev_congr (x:=c) fun s hs=>h s (.inr (.inr hs))]
 case bin op x y=>rw [ev_congr (x:=x) fun s hs=>h s (.inl hs),ev_congr (x:=y) fun s hs=>h s (.inr hs)]
 case eq n e x y=>rw [ev_congr (x:=x) fun s hs=>h s (.inl hs),ev_congr (x:=y) fun s hs=>h s (.inr hs)]
 case ix x y e=>rw [ev_congr (x:=x) fun s hs=>h s (.inl hs),ev_congr (x:=y) fun s hs=>h s (.inr hs)]
 case ixa x y l e=>rw [ev_congr (x:=x) fun s hs=>h s (.inl hs),ev_congr (x:=y) fun s hs=>h s (.inr hs)]
 case idx x y l=>rw [ev_congr (x:=x) fun s hs=>h s (.inl hs),ev_congr (x:=y) fun s hs=>h s (.inr hs)]
 case idxn x y l e=>rw [ev_congr (x:=x) fun s hs=>h s (.inl hs),ev_congr (x:=y) fun s hs=>h s (.inr hs)]
 case strix x y=>rw [ev_congr (x:=x) fun s hs=>h s (.inl hs),ev_congr (x:=y) fun s hs=>h s (.inr hs)]
 case look r x y z ok=>rw [ev_congr (x:=x) fun s hs=>h s (.inl hs),ev_congr (x:=y) fun s hs=>h s (.inr hs)]
 all_goals (try rfl)
 all_goals (rw [ev_congr h])
theorem effV_congr {nm:Nat→Nm} {H:AH} {a:AI} (h : ∀ s∈a.slots,t s=t' s):effV nm H t a=effV nm H t' a:=by
 cases a <;> simp only [AI.slots,List.mem_append] at h <;> simp only [effV]
 case st x y=>rw [ev_congr (x:=x) fun s hs=>h s (.inl hs),ev_congr (x:=y) fun s hs=>h s (.inr hs)]
 case stn x y k=>rw [ev_congr (x:=x) fun s hs=>h s (.inl hs),ev_congr (x:=y) fun s hs=>h s (.inr hs)]
 case bsl q z p l e=>rw [fillP_congr h]
 case box q x=>rw [ev_congr h]
 case clr x=>rw [ev_congr h]
 case mupd r c a b=>rw [ev_congr (x:=c) fun s hs=>h s (.inl hs),ev_congr (x:=a) fun s hs=>h s (.inr (.inl hs)),ev_congr (x:=b) fun s hs=>h s (.inr (.inr hs))]
 case est c a b=>rw [ev_congr (x:=c) fun s hs=>h s (.inl hs),ev_congr (x:=a) fun s hs=>h s (.inr (.inl hs)),ev_congr (x:=b) fun s hs=>h s (.inr (.inr hs))]
 case acas c a b=>rw [ev_congr (x:=c) fun s hs=>h s (.inl hs),ev_congr (x:=a) fun s hs=>h s (.inr (.inl hs)),ev_congr (x:=b) fun s hs=>h s (.inr (.inr hs))]
 case del r x y=>rw [ev_congr (x:=x) fun s hs=>h s (.inl hs),ev_congr (x:=y) fun s hs=>h s (.inr hs)]
 case app q x y e=>rw [ev_congr (x:=x) fun s hs=>h s (.inl hs),ev_congr (x:=y) fun s hs=>h s (.inr hs)]
theorem Out_congr {P:Program} {bm:Nat} {H:AH} {J:Bool→AV→AH→Prop} {a:AI} (h : ∀ s∈a.slots,t s=t' s):Out P bm t H J a↔Out P bm t' H J a:=by
 cases a <;> simp only [Out]
 case call f args =>
  simp only [AI.slots,List.mem_append] at h
  rw [ev_congr (x:=f) fun s hs=>h s (.inl hs),evs_congr (l:=args) fun s hs=>h s (.inr hs)]
 case rng q x=>simp only [AI.slots] at h; rw [ev_congr h]
 case nxt x=>simp only [AI.slots] at h; rw [ev_congr h]
 case ment r x y z =>
  simp only [AI.slots,List.mem_append] at h
  rw [ev_congr (x:=x) fun s hs=>h s (.inl hs),ev_congr (x:=y) fun s hs=>h s (.inr hs)]
 all_goals (unfold OutD; rw [pureV_congr h,effV_congr h])
end
def unn (ρ:Nm→Loc) (H:AH) (b:Nat):Prop := ∀ n o,H.f n=some o→o.live=true→(ρ n).b≠b
def mark (D:Nat):Deferred:={ target:=.collected D,args := #[] }
def Marks (B:Nat) (ρ:Nm→Loc) (H:AH) (w:World) (ds:List Deferred):Prop :=
 ∃ l:List Nat,l.Nodup∧ds=l.map mark ∧ ∀ D∈l,B≤D∧w.heap[D]? = some (.deferred (some []))∧unn ρ H D
theorem unn.step {ρ ρ':Nm→Loc} {H H':AH} {w w':World} {b:Nat} (h:unn ρ H b) (hb:b<w.heap.size) (x:Ext ρ ρ' H H' w w'):unn ρ' H' b:=fun n o hn hl e=>by
 obtain ⟨m,o',h1,h2,h3⟩:=x.back n o hn hl (by rw [e]; exact hb)
 exact h m o' h1 h2 (h3.trans e)
theorem Marks.step {B:Nat} {ρ ρ':Nm→Loc} {H H':AH} {w w':World} {ds:List Deferred} (h:Marks B ρ H w ds) (x:Ext ρ ρ' H H' w w'):Marks B ρ' H' w' ds:=by
 obtain ⟨l,h1,h2,h3⟩:=h
 refine ⟨l,h1,h2,fun D hD=>?_⟩
 obtain ⟨k1,k2,k3⟩:=h3 D hD
 have hlt:D<w.heap.size:=(Array.getElem?_eq_some_iff.1 k2).1
 exact ⟨k1,(x.frame D hlt k3).trans k2,k3.step hlt x⟩
theorem Marks.heap {B:Nat} {ρ:Nm→Loc} {H:AH} {w w':World} {ds:List Deferred} (h:Marks B ρ H w ds) (e:w'.heap=w.heap):Marks B ρ H w' ds:=by
 obtain ⟨l,h1,h2,h3⟩:=h
 exact ⟨l,h1,h2,fun D hD=>by rw [e]; exact h3 D hD⟩
theorem Marks.nil {B:Nat} {ρ:Nm→Loc} {H:AH} {w:World}:Marks B ρ H w []:=⟨[],List.nodup_nil,rfl,fun _ h=>by cases h⟩
structure St (B:Nat) (ρ0:Nm→Loc) (H0:AH) (w0:World) (N:Nat) (ρ:Nm→Loc) (t:Fr) (H:AH) (a:Act) (w:World):Prop where
 hw:HRel ρ H w
 tr:TRel ρ H.D t a
 sz:a.tmps.size=N
 df:Marks B ρ H w a.defers
 le:B≤w.heap.size
 ext:Ext ρ0 ρ H0 H w0 w
theorem HRel.drew {ρ:Nm→Loc} {H:AH} {w:World} {n:Nat} (h:HRel ρ H w):HRel ρ H { w with drawn:=n } :=
 ⟨fun m o hm=>by
  have:=h.obj m o hm
  cases o <;> exact this,h.lt,h.inj,h.tmp,h.io⟩
theorem St.drew {B:Nat} {ρ0:Nm→Loc} {H0:AH} {w0:World} {N:Nat} {ρ:Nm→Loc} {t:Fr} {H:AH} {a:Act} {w:World} {n:Nat} (h:St B ρ0 H0 w0 N ρ t H a w):St B ρ0 H0 w0 N ρ t H a { w with drawn:=n } :=
 ⟨h.hw.drew,h.tr,h.sz,h.df.heap rfl,h.le,⟨h.ext.dom,h.ext.size,h.ext.frame,h.ext.back,h.ext.k,h.ext.os⟩⟩
def gdOk (ops:Array Oper) (g:Option (Nat × Bool)) (o:Oper):Bool:=match g,o.guard with
 | none,none=>true
 | some (s,b),some (j,b')=>b==b'&&(match ops[j]? with | some p=>p.dst==some s | none=>false)
 | _,_=>false
def chkIns (P:Program) (ops:Array Oper) (N:Nat) (i:Ins):Bool:=match ops[i.n]? with
 | some o=>o.dst==i.d&&(match i.d with | some d=>Nat.blt d N | none=>true)&&gdOk ops i.g o&&chkA P o.op i.a
 | none=>false
def segIns (U:List Nat) (i:Ins):Bool:=(match i.a.q with | some q => !U.contains q | none=>true)&&(match i.a with | .call _ _=>i.bm != 0||U.isEmpty | _=>true)
def segOk:List Nat→List Ins→Bool
 | _,[]=>true
 | U,i::r=>segIns U i&&segOk (usedBy i.a U) r
def usedL:List Nat→List Ins→List Nat
 | U,[]=>U
 | U,i::r=>usedL (usedBy i.a U) r
theorem TRel.put {ρ:Nm→Loc} {D:Nm→Prop} {t:Fr} {a:Act} {d:Option Nat} {v:AV} {v':Value} (ht:TRel ρ D t a) (hv:VRel ρ D v v') (hd : ∀ x,d=some x→x<a.tmps.size) :
  TRel ρ D (put d v t) (a.put d v'):=by
 cases d with
 | none=>exact ht
 | some d =>
  intro s
  simp only [Ab.put,Act.put]
  cases hs:s==d with
  | true =>
   have:s=d:=by simpa using hs
   subst this
   have:=hd s rfl
   simpa [this,Array.getD_eq_getD_getElem?] using hv
  | false =>
   have:d≠s:=by intro e; subst e; simp at hs
   have h2:=ht s
   simpa [Array.getD_eq_getD_getElem?,Array.getElem?_setIfInBounds_ne this] using h2
theorem gd_wanted {ops:Array Oper} {g:Option (Nat × Bool)} {o:Oper} {ρ:Nm→Loc} {D:Nm→Prop} {t:Fr} {a:Act} {b:Bool} (h:gdOk ops g o=true) (ht:TRel ρ D t a) (hg:gd g t=some b) :
  Region.wanted o (yielded ops a.tmps)=b:=by
 unfold gdOk at h
 cases g with
 | none =>
  cases hgo:o.guard with
  | none=>simp only [gd,Option.some.injEq] at hg; subst hg; simp [Region.wanted,hgo]
  | some x=>simp [hgo] at h
 | some x =>
  obtain ⟨s,wb⟩:=x
  cases hgo:o.guard with
  | none=>simp [hgo] at h
  | some y =>
   obtain ⟨j,wb'⟩:=y
   simp only [hgo,Bool.and_eq_true,beq_iff_eq] at h
   obtain ⟨rfl,h⟩:=h
   cases hj:ops[j]? with
   | none=>simp [hj] at h
   | some p =>
    simp only [hj,beq_iff_eq] at h
    simp only [gd] at hg
    have hs:=ht s
    cases hts:t s <;> simp only [hts,gv,AV.isTup,if_false,if_true,Bool.false_eq_true] at hg <;> try (cases hg; done)
    case tup l =>
     simp only [Option.some.injEq] at hg
     subst hg
     rw [hts] at hs
     simp only [VRel,Array.getD_eq_getD_getElem?] at hs
     obtain ⟨c,hc,_⟩:=hs
     cases hx:a.tmps[s]? with
     | none=>simp [Region.wanted,hgo,yielded,hj,h,hx]
     | some u =>
      rw [hx] at hc
      have:u=.tuple c:=hc
      subst this
      simp [Region.wanted,hgo,yielded,hj,h,hx]
    simp only [Option.some.injEq] at hg
    subst hg
    rename_i b'
    rw [hts] at hs
    simp only [VRel,Array.getD_eq_getD_getElem?] at hs
    have hsome:a.tmps[s]? = some (.bool b'):=by
     cases hx:a.tmps[s]? with
     | none=>rw [hx] at hs; cases hs
     | some u=>rw [hx] at hs; exact congrArg some hs
    simp [Region.wanted,hgo,yielded,hj,h,hsome]
section
variable {B : Nat} {ro : Option Nat} {P : Program} {ρ0 : Nm → Loc} {H0 : AH} {w0 : World} {N : Nat} {ρ : Nm → Loc} {t : Fr} {H : AH} {a : Act} {w : World} {ops : Array Oper} {Q : Exit → Act → World → Prop}
theorem PClean.more {U U':List Nat} (h:PClean H U) (hu : ∀ x∈U,x∈U'):PClean H U':=fun j hj=>h j fun u hm=>hj u (hu u hm)
theorem bmp_St {U:List Nat} {bm:Nat} (s:St B ρ0 H0 w0 N ρ t H a w) (hp:PClean H U) (hb:bm=0→U=[]):St B ρ0 H0 w0 N ρ t (bmp bm H) a w∧Clean (bmp bm H):=by
 obtain ⟨h1,h2,h3⟩:=hp.call s.hw hb
 exact ⟨⟨h1,fun x=>(s.tr x).mono h3.dom,s.sz,s.df.step h3,Nat.le_trans s.le h3.size,s.ext.trans h3⟩,h2⟩
theorem bmp_zero:bmp 0 H=H:=rfl
theorem ins_sound {i:Ins} {U:List Nat} {K:Fr→AH→Prop} (hc:chkIns P ops N i=true) (h:vci P i K t H) (s:St B ρ0 H0 w0 N ρ t H a w) (hp:PClean H U) (hs:segIns U i=true)
  {next:Act→World→Prop} (hnext : ∀ t' H' ρ' a' w',K t' H'→St B ρ0 H0 w0 N ρ' t' H' a' w'→PClean H' (usedBy i.a U)→next a' w'):wpOpIn (Fe ro) 0 P ops Q i.n next a w:=by
 unfold chkIns at hc
 cases ho:ops[i.n]? with
 | none=>simp [ho] at hc
 | some o =>
  simp only [ho,Bool.and_eq_true,beq_iff_eq] at hc
  obtain ⟨⟨⟨hd,hdN⟩,hg⟩,hA⟩:=hc
  have hdlt : ∀ x,o.dst=some x→x<a.tmps.size:=by
   intro x hx
   rw [hd] at hx
   rw [hx] at hdN
   rw [s.sz]
   simpa [Nat.blt_eq] using hdN
  have hsq : ∀ q,i.a.q=some q→q ∉ U:=by
   intro q hq
   have:=hs
   simp only [segIns,Bool.and_eq_true,hq] at this
   simpa using this.1
  have hsc : ∀ f args,i.a=.call f args→i.bm=0→U=[]:=by
   intro f args hf hb
   have:=hs
   simp only [segIns,Bool.and_eq_true,hf] at this
   have:=this.2
   simp [hb] at this
   exact this
  unfold wpOpIn
  simp only [ho]
  unfold vci at h
  cases hgd:gd i.g t with
  | none=>simp [hgd] at h
  | some b =>
   have hwd:=gd_wanted hg s.tr hgd
   rw [hwd]
   cases b with
   | true =>
    simp only [hgd] at h
    simp only [if_true]
    refine (Out_sound hA h s.hw s.tr hp hsc hsq ?_)
    intro b v v' ρ' H' w' hJ hv hw' hx hp' _
    refine hnext (put i.d v t) H' ρ' _ w' hJ.2 ⟨hw',?_,?_,?_,Nat.le_trans s.le hx.size,s.ext.trans hx⟩ hp'
    ·rw [← hd]
     exact TRel.put (fun x=>(s.tr x).mono hx.dom) hv hdlt
    ·cases hdd:o.dst <;> simp [Act.put,s.sz]
    ·have:=s.df.step hx
     cases hdd:o.dst <;> exact this
   | false =>
    simp only [hgd] at h
    simp only [Bool.false_eq_true,if_false]
    by_cases hb:i.bm=0
    ·rw [hb,bmp_zero] at h
     refine ⟨fun _ _=>trivial,hnext (put i.d und t) H ρ _ w h ⟨s.hw,?_,?_,?_,s.le,s.ext⟩ ?_⟩
     ·rw [← hd]
      exact TRel.put s.tr und_rel hdlt
     ·cases hdd:o.dst <;> simp [Act.put,s.sz]
     ·have:=s.df
      cases hdd:o.dst <;> exact this
     ·refine hp.more ?_
      intro x hx
      unfold usedBy
      cases hia:i.a <;> simp only [AI.q,List.mem_cons] <;> first | exact hx | exact .inr hx | skip
      have:=hsc _ _ hia hb
      rw [this] at hx; cases hx
    ·obtain ⟨s',hcl⟩:=bmp_St s hp (fun h0=>absurd h0 hb)
     refine ⟨fun _ _=>trivial,hnext (put i.d und t) _ ρ _ w h ⟨s'.hw,?_,?_,?_,s'.le,s'.ext⟩ (fun j _=>hcl j)⟩
     ·rw [← hd]
      exact TRel.put s'.tr und_rel hdlt
     ·cases hdd:o.dst <;> simp [Act.put,s.sz]
     ·have:=s'.df
      cases hdd:o.dst <;> exact this
theorem lst_sound {K:Fr→AH→Prop} : ∀ (l:List Ins) (U:List Nat) (t:Fr) (H:AH) (ρ:Nm→Loc) (a:Act) (w:World),(l.all (chkIns P ops N))=true→segOk U l=true→vcr P l K t H →
  St B ρ0 H0 w0 N ρ t H a w→PClean H U→(∀ t' H' ρ' a' w',K t' H'→St B ρ0 H0 w0 N ρ' t' H' a' w'→PClean H' (usedL U l)→Q .normal a' w')→wpOpsIn (Fe ro) 0 P ops Q (l.map (·.n)) a w
 | [],U,t,H,ρ,a,w,_,_,h,s,hp,hk=>by
  simp only [List.map_nil,wpOpsIn]
  exact hk t H ρ a w h s hp
 | i::r,U,t,H,ρ,a,w,hc,hs,h,s,hp,hk=>by
  simp only [List.all_cons,Bool.and_eq_true] at hc
  simp only [segOk,Bool.and_eq_true] at hs
  rw [List.map_cons,wpOpsIn_cons]
  exact ins_sound hc.1 h s hp hs.1 fun t' H' ρ' a' w' h' s' hp'=>lst_sound r (usedBy i.a U) t' H' ρ' a' w' hc.2 hs.2 h' s' hp' hk
end
end Go.Ab

namespace Go.Ab
open Go
inductive Cl | p | r | a | w | c
 deriving DecidableEq
def AI.cl:AI→Cl
 | .ld _ | .ldn _ _ | .look _ _ _ _ _ | .ent _ | .aload _ | .eq _ _ _ _=>.r
 | .alc _ _ | .box _ _ | .bsl _ _ _ _ _ | .mkm _ _=>.a
 | .call _ _=>.c
 | .st _ _ | .stn _ _ _ | .mupd _ _ _ _ | .ment _ _ _ _ | .est _ _ _ | .app _ _ _ _ | .del _ _ _ | .rng _ _ | .nxt _ | .acas _ _ _ | .clr _ | .pan=>.w
 | _=>.p
def Ins.looks (i:Ins):List Nat:=match i.g with
 | some (s,_)=>s::i.a.slots
 | none=>i.a.slots
def hasN (s:Nat):List Nat→Bool
 | []=>false
 | x::r=>x==s||hasN s r
theorem hasN_iff {s:Nat} : ∀ {l:List Nat},hasN s l=true↔s∈l
 | []=>by simp [hasN]
 | x::r=>by
  rw [hasN,Bool.or_eq_true,hasN_iff (l:=r),List.mem_cons,beq_iff_eq,@eq_comm _ x s]
def apart (i j:Ins):Bool :=
 (match i.d with
 | some d => !hasN d j.looks&&(match j.d with | some e => !(e==d) | none=>true)
 | none=>true) &&
 (match j.d with
 | some d => !hasN d i.looks
 | none=>true)
theorem apart_spec {i j:Ins} (h:apart i j=true):(∀ d,i.d=some d→d ∉ j.looks)∧(∀ d,i.d=some d→j.d≠some d)∧(∀ d,j.d=some d→d ∉ i.looks):=by
 simp only [apart,Bool.and_eq_true] at h
 refine ⟨fun d hd=>?_,fun d hd he=>?_,fun d hd=>?_⟩
 ·have:=h.1; simp only [hd,Bool.and_eq_true,Bool.not_eq_true'] at this
  intro hm; rw [hasN_iff.2 hm] at this; exact absurd this.1 (by simp)
 ·have:=h.1; simp only [hd,he,Bool.and_eq_true,Bool.not_eq_true'] at this
  simp at this
 ·have:=h.2; simp only [hd,Bool.not_eq_true'] at this
  intro hm; rw [hasN_iff.2 hm] at this; cases this
def X.same:X→X→Bool
 | .s a,.s b=>a==b
 | .c (.int k n),.c (.int k' n')=>decide (k=k')&&n==n'
 | _,_=>false
theorem X.same_eq {x y:X} (h:x.same y=true):x=y:=by
 cases x <;> cases y
 ·simp [X.same] at h; rw [h]
 ·simp [X.same] at h
 ·rename_i v _; cases v <;> simp [X.same] at h
 ·rename_i u v; cases u <;> cases v <;> simp [X.same] at h
  rw [h.1,h.2]
def AV.same1:AV→AV→Bool
 | .int k n,.int k' n'=>decide (k=k')&&n==n'
 | .bool a,.bool b=>a==b
 | .nilp,.nilp | .nils,.nils | .nilm,.nilm | .nilf,.nilf | .nili,.nili=>true
 | _,_=>false
theorem AV.same1_eq {x y:AV} (h:x.same1 y=true):x=y:=by
 cases x <;> cases y <;> simp [AV.same1] at h <;> first | rfl | (rw [h]) | (rw [h.1,h.2])
def AV.sameL:List AV→List AV→Bool
 | [],[]=>true
 | a::l,b::r=>a.same1 b&&AV.sameL l r
 | _,_=>false
theorem AV.sameL_eq : ∀ {x y:List AV},AV.sameL x y=true→x=y
 | [],[],_=>rfl
 | [],_::_,h=>by simp [AV.sameL] at h
 | _::_,[],h=>by simp [AV.sameL] at h
 | a::l,b::r,h=>by
  simp only [AV.sameL,Bool.and_eq_true] at h
  rw [AV.same1_eq h.1,AV.sameL_eq h.2]
def AV.same:AV→AV→Bool
 | .agg l,.agg r=>AV.sameL l r
 | a,b=>a.same1 b
theorem AV.same_eq {x y:AV} (h:x.same y=true):x=y:=by
 unfold AV.same at h
 split at h
 ·rw [AV.sameL_eq h]
 ·exact AV.same1_eq h
def AI.same:AI→AI→Bool
 | .ld x,.ld y=>x.same y
 | .ldn x n,.ldn y n'=>x.same y&&n==n'
 | .look r m k z ok,.look r' m' k' z' ok'=>r==r'&&m.same m'&&k.same k'&&z.same z'&&ok==ok'
 | .aload x,.aload y=>x.same y
 | _,_=>false
theorem AI.same_eq {x y:AI} (h:x.same y=true):x=y:=by
 unfold AI.same at h
 split at h
 ·rw [X.same_eq h]
 ·simp only [Bool.and_eq_true,beq_iff_eq] at h; rw [X.same_eq h.1,h.2]
 ·simp only [Bool.and_eq_true,beq_iff_eq] at h
  obtain ⟨⟨⟨⟨h1,h2⟩,h3⟩,h4⟩,h5⟩:=h
  rw [h1,X.same_eq h2,X.same_eq h3,AV.same_eq h4,h5]
 ·rw [X.same_eq h]
 ·cases h
def dropH (d:Option Nat) (h:List Hold):List Hold:=match d with
 | none=>h
 | some d=>h.filter fun p => !(p.2.1==d) && !hasN d p.2.2.slots&&(match p.1 with | some (s,_) => !(s==d) | none=>true)
def swapOk (i j:Ins) (hj:List Hold):Bool :=
 apart i j&&match i.a.cl,j.a.cl with
  | .p,_=>i.bm==0
  | .r,.p | .r,.r | .r,.a=>i.bm==0
  | .r,_=>i.bm==0&&(match i.d with | some d => !hasN d i.looks&&hj.any fun p=>p.1==i.g&&p.2.1==d&&p.2.2.same i.a | none=>false)
  | .a,.p=>i.hold.isEmpty&&i.bm==0&&j.bm==0
  | .a,.a=>i.hold.isEmpty&&i.bm==0&&j.bm==0&&hj.isEmpty&&(match i.a.q,j.a.q with | some x,some y => !(x==y) | _,_=>false)
  | _,_=>false
section
variable {P : Program} {t t' : Fr} {H H' : AH} {a : AI}
theorem pureV_p (h:a.cl=.p):pureV H t a=pureV H' t a:=by
 cases a <;> first | (cases h; done) | rfl
theorem pureV_bmp {c:Nat}:pureV (bmp c H) t a=pureV H t a:=by
 have hf:(bmp c H).f=H.f:=by unfold bmp; split <;> rfl
 have hrd : ∀ n o,(bmp c H).rd n o=H.rd n o:=fun n o=>by simp [AH.rd,hf]
 have hrdN : ∀ n o k,(bmp c H).rdN n o k=H.rdN n o k:=fun n o k=>by simp [AH.rdN,hf]
 have hmp : ∀ r n,(bmp c H).mpAt r n=H.mpAt r n:=fun r n=>by simp [AH.mpAt,hf]
 have hca : ∀ n,(bmp c H).cellsAt n=H.cellsAt n:=fun n=>by simp [AH.cellsAt,hf]
 have heq : ∀ e x y,eqv (bmp c H) e x y=eqv H e x y:=fun e x y=>by
  unfold eqv
  simp only [hca]
 cases a <;> simp only [pureV,hrd,hrdN,hmp,heq,hf]
theorem pureV_new {n:Nm} {o:AO} {v:AV} (hn:H.f n=none) (h:pureV H t a=some v):pureV (H.set n o) t a=some v:=by
 have hne : ∀ {m x},H.f m=some x→(H.set n o).f m=some x:=fun {m x} hm=>by
  rw [AH.set_ne]
  ·exact hm
  ·intro he; rw [he,hn] at hm; cases hm
 have hrd : ∀ {m k v},H.rd m k=some v→(H.set n o).rd m k=some v:=fun {m k v} hm=>by
  unfold AH.rd at *
  cases hf:H.f m with
  | none=>simp [hf] at hm
  | some x=>rw [hne hf]; rw [hf] at hm; exact hm
 have hrdN : ∀ {m k j v},H.rdN m k j=some v→(H.set n o).rdN m k j=some v:=fun {m k j v} hm=>by
  unfold AH.rdN at *
  cases hf:H.f m with
  | none=>simp [hf] at hm
  | some x=>rw [hne hf]; rw [hf] at hm; exact hm
 have hmp : ∀ {r m v},H.mpAt r m=some v→(H.set n o).mpAt r m=some v:=fun {r m v} hm=>by
  unfold AH.mpAt at *
  cases hf:H.f m with
  | none=>simp [hf] at hm
  | some x=>rw [hne hf]; rw [hf] at hm; exact hm
 have hca : ∀ {m},H.cellsAt m=true→(H.set n o).cellsAt m=true:=fun {m} hm=>by
  unfold AH.cellsAt at *
  cases hf:H.f m with
  | none=>simp [hf] at hm
  | some x=>rw [hne hf]; rw [hf] at hm; exact hm
 by_cases hp:a.cl=.p
 ·rw [← pureV_p (H:=H) hp]; exact h
 ·cases a <;> first | (exfalso; exact hp rfl) | skip
  case ld x =>
   simp only [pureV] at h ⊢
   cases hx:ev t x <;> simp only [hx] at h ⊢ <;> first | exact hrd h | (cases h; done)
  case ldn x k =>
   simp only [pureV] at h ⊢
   cases hx:ev t x <;> simp only [hx] at h ⊢ <;> first | (cases h; done) | skip
   cases hq:H.rdN _ _ k with
   | none=>rw [hq] at h; cases h
   | some l=>rw [hrdN hq]; rw [hq] at h; exact h
  case eq neg e x y =>
   simp only [pureV] at h ⊢
   have : ∀ {b},eqv H e (ev t x) (ev t y)=some b→eqv (H.set n o) e (ev t x) (ev t y)=some b:=by
    intro b hb
    generalize ev t x=vx at *
    generalize ev t y=vy at *
    cases e <;> cases vx <;> cases vy <;> simp only [eqv] at hb ⊢ <;> first | exact hb | cases hb | skip
    split at hb
    ·rename_i hc
     simp only [Bool.and_eq_true] at hc
     rw [if_pos (by simp [hca hc.1,hca hc.2])]
     exact hb
    ·cases hb
   cases hq:eqv H e (ev t x) (ev t y) with
   | none=>rw [hq] at h; cases h
   | some b=>rw [this hq]; rw [hq] at h; exact h
  case look r m k z ok =>
   simp only [pureV] at h ⊢
   split at h
   ·rename_i n' key h1 h2
    try simp only [h1,h2]
    cases hq:H.mpAt r n' with
    | none=>simp [hq] at h
    | some mp=>rw [hmp hq]; rw [hq] at h; exact h
   ·rename_i h1 h2
    first | exact h | (simp only [h1,h2]; exact h)
   ·cases h
  case ent x =>
   simp only [pureV] at h ⊢
   split at h
   ·rename_i it h1
    try simp only [h1]
    cases hq:H.f it with
    | none=>simp [hq] at h
    | some x =>
     rw [hne hq]
     simp only [hq] at h
     cases x <;> simp only at h ⊢ <;> try cases h
     rename_i m
     cases hq2:H.f m with
     | none=>simp [hq2] at h
     | some y=>rw [hne hq2]; simp only [hq2] at h; exact h
   ·cases h
  case aload x =>
   simp only [pureV] at h ⊢
   split at h
   ·rename_i m off h1
    try simp only [h1]
    cases hq:H.rd m off with
    | none=>simp [hq] at h
    | some u=>rw [hrd hq]; simp only [hq] at h; exact h
   ·cases h
  all_goals (simp [pureV] at h)
theorem Out_pr {bm:Nat} {J:Bool→AV→AH→Prop} (h:a.cl=.p∨a.cl=.r):Out P bm t H J a ↔ ∃ v,pureV H t a=some v∧J false v H:=by
 have:Out P bm t H J a↔OutD t H J a:=by cases a <;> first | rfl | (exfalso; rcases h with h | h <;> cases h)
 rw [this]
 unfold OutD
 cases hp:pureV H t a with
 | some v=>simp
 | none =>
  have he:effV H.nm H t a=none:=by cases a <;> first | rfl | (exfalso; rcases h with h | h <;> cases h)
  simp [he]
def newV (t:Fr) (n:Nm):AI→Option (AV × AO)
 | .alc _ zero=>some (.ptr n 0,.row zero.length (cs zero))
 | .box _ x=>if (ev t x).cells.all AV.scalar then some (.ptr n 0,.row (ev t x).cells.length (cs (ev t x).cells)) else none
 | .bsl _ zero parts len e=>match fillP t zero parts with
  | some l=>if l.length=len*e then some (.slice n e 0 len,.row l.length (cs l)) else none
  | none=>none
 | .mkm _ r=>some (.map n,.mp r fun _=>none)
 | _=>none
theorem newV_congr {n:Nm} (h : ∀ s∈a.slots,t s=t' s):newV t n a=newV t' n a:=by
 cases a <;> simp only [newV]
 case box q x=>simp only [AI.slots] at h; rw [ev_congr h]
 case bsl q z p l e=>simp only [AI.slots] at h; rw [fillP_congr h]
theorem Out_a {bm:Nat} {J:Bool→AV→AH→Prop} (h:a.cl=.a):Out P bm t H J a ↔ ∃ q v o,a.q=some q∧newV t (H.nm q) a=some (v,o)∧H.nmOk q∧J true v (H.set (H.nm q) o):=by
 cases a <;> first | (cases h; done) | skip
 case alc q z =>
  simp only [Out,OutD,pureV,effV,AI.q,newV,Option.some.injEq,Prod.mk.injEq]
  exact ⟨fun h=>⟨q,_,_,rfl,⟨rfl,rfl⟩,h.1 q rfl,h.2⟩,fun ⟨q',v,o,h1,h2,h3,h4⟩=>by obtain ⟨rfl,rfl⟩:=h2; cases h1; exact ⟨fun q hq=>by cases hq; exact h3,h4⟩⟩
 case mkm q r =>
  simp only [Out,OutD,pureV,effV,AI.q,newV,Option.some.injEq,Prod.mk.injEq]
  exact ⟨fun h=>⟨q,_,_,rfl,⟨rfl,rfl⟩,h.1 q rfl,h.2⟩,fun ⟨q',v,o,h1,h2,h3,h4⟩=>by obtain ⟨rfl,rfl⟩:=h2; cases h1; exact ⟨fun q hq=>by cases hq; exact h3,h4⟩⟩
 case box q x =>
  simp only [Out,OutD,pureV,effV,AI.q,newV]
  by_cases hc:(ev t x).cells.all AV.scalar=true
  ·simp only [hc,if_true,Option.some.injEq,Prod.mk.injEq]
   exact ⟨fun h=>⟨q,_,_,rfl,⟨rfl,rfl⟩,h.1 q rfl,h.2⟩,fun ⟨q',v,o,h1,h2,h3,h4⟩=>by obtain ⟨rfl,rfl⟩:=h2; cases h1; exact ⟨fun q hq=>by cases hq; exact h3,h4⟩⟩
  ·simp [hc]
 case bsl q z p l e =>
  simp only [Out,OutD,pureV,effV,AI.q,newV]
  cases hf:fillP t z p with
  | none=>simp
  | some l' =>
   by_cases hc:l'.length=l*e
   ·simp only [hc,if_true,Option.some.injEq,Prod.mk.injEq]
    exact ⟨fun h=>⟨q,_,_,rfl,⟨rfl,rfl⟩,h.1 q rfl,h.2⟩,fun ⟨q',v,o,h1,h2,h3,h4⟩=>by obtain ⟨rfl,rfl⟩:=h2; cases h1; exact ⟨fun q hq=>by cases hq; exact h3,h4⟩⟩
   ·simp [hc]
theorem Out_wc {bm:Nat} {J:Bool→AV→AH→Prop} (h:a.cl=.w∨a.cl=.c) (ho:Out P bm t H J a):Out P bm t H (fun b v H'=>b=true∧J b v H') a:=by
 cases a <;> first | (exfalso; rcases h with h | h <;> cases h; done) | skip
 case call f args =>
  simp only [Out] at ho ⊢
  cases hf:ev t f <;> simp only [hf] at ho ⊢
  exact ho.mono fun v H' hh=>⟨trivial,hh⟩
 case rng q x =>
  simp only [Out] at ho ⊢
  refine ⟨ho.1,?_⟩
  have h:=ho.2
  cases hx:ev t x <;> simp only [hx] at h ⊢
  ·cases hn:H.f _ <;> simp only [hn] at h
   rename_i n o
   cases o <;> simp only at h ⊢
   exact fun c=>⟨trivial,h c⟩
  ·exact ⟨trivial,h⟩
 case nxt x =>
  simp only [Out] at ho ⊢
  cases hx:ev t x <;> simp only [hx] at ho ⊢
  rename_i it off
  cases off <;> simp only at ho ⊢
  cases hn:H.f it <;> simp only [hn] at ho ⊢
  rename_i o
  cases o <;> simp only at ho ⊢
  ·rename_i n
   cases hm:H.f n <;> simp only [hm] at ho ⊢
   rename_i o
   cases o <;> simp only at ho ⊢
   exact ⟨ho.1,fun key v h1 h2 h3 h4=>⟨trivial,ho.2.1 key v h1 h2 h3 h4⟩,fun hh=>⟨trivial,ho.2.2 hh⟩⟩
  ·exact ⟨trivial,ho⟩
 case ment r m k zero =>
  simp only [Out] at ho ⊢
  cases hm:ev t m <;> simp only [hm] at ho ⊢
  rename_i n
  cases hk:keyOf r (ev t k) <;> simp only [hk] at ho ⊢
  cases hn:H.f n <;> simp only [hn] at ho ⊢
  rename_i key o
  cases o <;> simp only at ho ⊢
  exact ⟨ho.1,fun b=>⟨trivial,ho.2 b⟩⟩
 all_goals
  simp only [Out,OutD,pureV] at ho ⊢
  split at ho
  ·first | exact ⟨ho.1,trivial,ho.2⟩ | (simp only [*]; exact ⟨ho.1,trivial,ho.2⟩)
  ·exact ho.elim
theorem put_put {d e:Option Nat} {u v:AV} (h : ∀ x,d=some x→e≠some x):put e v (put d u t)=put d u (put e v t):=by
 cases d with
 | none=>rfl
 | some d =>
  cases e with
  | none=>rfl
  | some e =>
   have:e≠d:=fun he=>h d rfl (he ▸ rfl)
   funext s
   simp only [put]
   cases h1:s==e <;> cases h2:s==d <;> simp
   exfalso
   simp at h1 h2
   exact this (by rw [← h1,← h2])
theorem put_other {d:Option Nat} {u:AV} {s:Nat} (h : ∀ x,d=some x→x≠s):put d u t s=t s:=by
 cases d with
 | none=>rfl
 | some d =>
  have:(s==d)=false:=by simpa using fun e=>h d rfl e.symm
  simp [put,this]
theorem put_looks {d:Option Nat} {u:AV} {l:List Nat} (h : ∀ x,d=some x→x ∉ l) : ∀ s∈l,put d u t s=t s:=fun s hs=>put_other fun x hx he=>h x hx (he ▸ hs)
theorem gd_put {i:Ins} {d:Option Nat} {u:AV} (h : ∀ x,d=some x→x ∉ i.looks):gd i.g (put d u t)=gd i.g t:=by
 unfold gd
 cases hg:i.g with
 | none=>rfl
 | some p =>
  obtain ⟨s,b⟩:=p
  have:put d u t s=t s:=put_looks h s (by simp [Ins.looks,hg])
  simp only [this]
theorem slots_put {i:Ins} {d:Option Nat} {u:AV} (h : ∀ x,d=some x→x ∉ i.looks) : ∀ s∈i.a.slots,put d u t s=t s :=
 fun s hs=>put_looks h s (by unfold Ins.looks; split <;> simp [hs])
theorem nm_set {n:Nm} {o:AO}:(H.set n o).nm=H.nm:=rfl
theorem set_comm {n m:Nm} {o o':AO} (h:n≠m):(H.set n o).set m o'=(H.set m o').set n o:=by
 simp only [AH.set]; congr 1; funext x
 by_cases h1:x=m
 ·subst h1; simp [Ne.symm h]
 ·simp [h1]
theorem nm_none {U:List Nat} {q:Nat} (h:PClean H U) (hq:q ∉ U) (hok:H.nmOk q):H.f (H.nm q)=none:=by
 have:=(nm_fresh h hq hok).1
 cases hh:H.f (H.nm q) with
 | none=>rfl
 | some o=>exact absurd (AH.D_of hh) this
theorem swap {i j:Ins} {hj:List Hold} {U:List Nat} {K:Fr→AH→Prop} (hs:swapOk i j hj=true) (hp:j.a.cl=.a→PClean H U∧(∀ q,i.a.q=some q→q ∉ U)∧(∀ q,j.a.q=some q→q ∉ U))
  (h:vci P i (fun t H=>vci P { j with hold:=hj } K t H) t H):vci P { j with hold:=dropH i.d hj } (fun t H=>vci P i K t H) t H:=by
 simp only [swapOk,Bool.and_eq_true] at hs
 obtain ⟨hap,hs⟩:=hs
 obtain ⟨a1,a2,a3⟩:=apart_spec hap
 have gj : ∀ u,gd j.g (put i.d u t)=gd j.g t:=fun u=>gd_put a1
 have gi : ∀ u,gd i.g (put j.d u t)=gd i.g t:=fun u=>gd_put a3
 have sj : ∀ u,∀ s∈j.a.slots,put i.d u t s=t s:=fun u=>slots_put a1
 have si : ∀ u,∀ s∈i.a.slots,put j.d u t s=t s:=fun u=>slots_put a3
 have pp : ∀ u v,put j.d v (put i.d u t)=put i.d u (put j.d v t):=fun u v=>put_put a2
 have holds : ∀ {u H'},holdsOk hj (put i.d u t) H'→holdsOk (dropH i.d hj) t H':=by
  intro u H' hh p hpm
  unfold dropH at hpm
  cases hd:i.d with
  | none=>rw [hd] at hpm hh; exact hh p hpm
  | some d =>
   rw [hd] at hpm hh
   simp only [List.mem_filter,Bool.and_eq_true,Bool.not_eq_true'] at hpm
   intro hgp
   have hgd:gd p.1 (put (some d) u t)=gd p.1 t:=by
    unfold gd
    cases hp1:p.1 with
    | none=>rfl
    | some q =>
     obtain ⟨s,b⟩:=q
     have h3:=hpm.2.2
     simp only [hp1,Bool.not_eq_true',beq_eq_false_iff_ne] at h3
     have:put (some d) u t s=t s:=put_other fun x hx he=>by cases hx; exact h3 he.symm
     simp only [this]
   have h1:=hh p hpm.1 (by rw [hgd]; exact hgp)
   have hne:p.2.1≠d:=by simpa using hpm.2.1.1
   rw [put_other (fun x hx=>by cases hx; exact Ne.symm hne)] at h1
   rw [← h1]
   refine (pureV_congr fun s hs=>?_).symm
   refine put_other fun x hx he=>?_
   cases hx
   have:=hpm.2.1.2
   rw [he,hasN_iff.2 hs] at this; cases this
 by_cases hpr:i.a.cl=.p∨i.a.cl=.r
 ·have hbm:i.bm=0:=by
   rcases hpr with h1 | h1 <;> cases h2:j.a.cl <;> simp only [h1,h2,Bool.and_eq_true,beq_iff_eq] at hs
   all_goals first | exact hs | exact hs.1
  have key : ∃ u,(∀ H' t',(∀ s∈i.looks,t' s=t s)→(gd i.g t=some true→pureV H t i.a=some u→pureV H' t i.a=some u) → ∀ K:Fr→AH→Prop,K (put i.d u t') H'→vci P i K t' H') ∧
    vci P { j with hold:=hj } K (put i.d u t) H∧(gd i.g t=some true→pureV H t i.a=some u):=by
   unfold vci at h
   cases hg:gd i.g t with
   | none=>simp only [hg] at h
   | some b =>
    have gt : ∀ t':Fr,(∀ s∈i.looks,t' s=t s)→gd i.g t'=some b:=by
     intro t' ht'
     rw [← hg]
     unfold gd
     cases hg:i.g with
     | none=>rfl
     | some p=>obtain ⟨s,b⟩:=p; simp only [ht' s (by simp [Ins.looks,hg])]
    cases b with
    | true =>
     simp only [hg,vca] at h
     obtain ⟨u,h1,_,h2⟩:=(Out_pr hpr).1 h
     refine ⟨u,fun H' t' ht' hst K hK=>?_,h2,fun _=>h1⟩
     unfold vci
     simp only [gt t' ht',vca]
     refine (Out_pr hpr).2 ⟨u,?_,fun hb=>(by cases hb),hK⟩
     rw [pureV_congr (t':=t) fun s hs=>ht' s (by unfold Ins.looks; split <;> simp [hs])]
     exact hst rfl h1
    | false =>
     simp only [hg] at h
     rw [hbm,bmp_zero] at h
     refine ⟨und,fun H' t' ht' _ K hK=>?_,h,fun hb=>(by cases hb)⟩
     unfold vci
     simp only [gt t' ht',hbm,bmp_zero]
     exact hK
  obtain ⟨u,k1,k2,k3⟩:=key
  have lk : ∀ v,∀ s∈i.looks,put j.d v t s=t s:=fun v=>put_looks a3
  unfold vci at k2 ⊢
  simp only at k2 ⊢
  rw [gj] at k2
  cases hgj:gd j.g t with
  | none=>simp only [hgj] at k2
  | some b =>
   cases b with
   | false =>
    simp only [hgj] at k2 ⊢
    rw [pp] at k2
    exact k1 _ _ (lk _) (fun _ hh=>by rw [pureV_bmp]; exact hh) _ k2
   | true =>
    simp only [hgj,vca] at k2 ⊢
    rw [Out_congr (sj u)] at k2
    cases hc:j.a.cl with
    | p =>
     obtain ⟨v,v1,_,v2⟩:=(Out_pr (.inl hc)).1 k2
     rw [pp] at v2
     exact (Out_pr (.inl hc)).2 ⟨v,v1,fun hb=>(by cases hb),k1 _ _ (lk _) (fun _ hh=>hh) _ v2⟩
    | r =>
     obtain ⟨v,v1,_,v2⟩:=(Out_pr (.inr hc)).1 k2
     rw [pp] at v2
     exact (Out_pr (.inr hc)).2 ⟨v,v1,fun hb=>(by cases hb),k1 _ _ (lk _) (fun _ hh=>hh) _ v2⟩
    | a =>
     obtain ⟨q,v,o,q1,q2,q3,q4,q5⟩:=(Out_a hc).1 k2
     obtain ⟨p1,p2,p3⟩:=hp hc
     rw [pp] at q5
     exact (Out_a hc).2 ⟨q,v,o,q1,q2,q3,fun hb=>holds (q4 hb),k1 _ _ (lk _) (fun _ hh=>pureV_new (nm_none p1 (p3 q q1) q3) hh) _ q5⟩
    | _ =>
     have hwc:j.a.cl=.w∨j.a.cl=.c:=by simp [hc]
     refine Out_mono ?_ (Out_wc hwc k2)
     rintro b v H' ⟨hb,j1,j2⟩
     rw [pp] at j2
     refine ⟨fun hb=>holds (j1 hb),k1 _ _ (lk _) ?_ _ j2⟩
     intro hgi hh
     rcases hpr with h1 | h1
     ·rw [pureV_p (H':=H) h1]; exact hh
     ·simp only [h1,hc,Bool.and_eq_true] at hs
      cases hd:i.d with
      | none=>simp [hd] at hs
      | some d =>
       simp only [hd,Bool.and_eq_true,Bool.not_eq_true'] at hs
       obtain ⟨p,hpm,hps⟩:=List.any_eq_true.1 hs.2.2
       simp only [Bool.and_eq_true,beq_iff_eq] at hps
       have hgg:gd i.g (put i.d u t)=some true:=by
        rw [← hgi,hd]
        refine gd_put fun x hx hm=>?_
        cases hx
        rw [hasN_iff.2 hm] at hs
        exact absurd hs.2.1 (by simp)
       have h3:=j1 hb p hpm (by rw [hps.1.1]; exact hgg)
       rw [AI.same_eq hps.2,hps.1.2,hd] at h3
       have h4:pureV H' (put (some d) u t) i.a=pureV H' t i.a:=by
        refine pureV_congr fun s hs'=>put_other fun x hx he=>?_
        cases hx
        have hl:s∈i.looks:=by unfold Ins.looks; split <;> simp [hs']
        rw [he,hasN_iff.2 hl] at hs
        exact absurd hs.2.1 (by simp)
       rw [h4] at h3
       simpa [put] using h3
 ·have hia:i.a.cl=.a:=by
   cases h1:i.a.cl <;> simp only [h1] at hs hpr <;> first | rfl | (simp at hpr; done) | (cases hs; done)
  have hbm:i.bm=0:=by
   cases h2:j.a.cl <;> simp only [hia,h2,Bool.and_eq_true,beq_iff_eq] at hs
   all_goals first | exact hs.1.2 | exact hs.1.1.1.2 | cases hs
  have hjb:j.bm=0:=by
   cases h2:j.a.cl <;> simp only [hia,h2,Bool.and_eq_true,beq_iff_eq] at hs
   all_goals first | exact hs.2 | exact hs.1.1.2 | cases hs
  have hih:i.hold=[]:=by
   cases h2:j.a.cl <;> simp only [hia,h2,Bool.and_eq_true,List.isEmpty_iff] at hs
   all_goals first | exact hs.1.1 | exact hs.1.1.1.1 | cases hs
  have lk : ∀ v,∀ s∈i.looks,put j.d v t s=t s:=fun v=>put_looks a3
  have gt : ∀ v,gd i.g (put j.d v t)=gd i.g t:=fun v=>gi v
  have hpj:j.a.cl=.p∨j.a.cl=.a:=by
   cases h2:j.a.cl <;> simp only [hia,h2] at hs <;> first | exact .inl rfl | exact .inr rfl | cases hs
  unfold vci at h
  cases hg:gd i.g t with
  | none=>simp only [hg] at h
  | some b =>
   cases b with
   | false =>
    simp only [hg] at h
    rw [hbm,bmp_zero] at h
    unfold vci
    simp only at h ⊢
    rw [gj] at h
    cases hgj:gd j.g t with
    | none=>simp only [hgj] at h
    | some b =>
     cases b with
     | false =>
      simp only [hgj] at h ⊢
      rw [pp] at h
      simp only [gt,hg,hbm,bmp_zero]
      exact h
     | true =>
      simp only [hgj,vca] at h ⊢
      rw [Out_congr (sj _)] at h
      refine Out_mono ?_ h
      rintro b v H' ⟨j1,j2⟩
      refine ⟨fun hb=>holds (j1 hb),?_⟩
      simp only [gt,hg,hbm,bmp_zero]
      rw [pp] at j2
      exact j2
   | true =>
    simp only [hg,vca] at h
    obtain ⟨q,v,o,q1,q2,q3,q4,q5⟩:=(Out_a hia).1 h
    have back : ∀ v' H',H'.nm=H.nm→H'.nmOk q → ∀ K:Fr→AH→Prop,K (put i.d v (put j.d v' t)) (H'.set (H.nm q) o)→vci P i K (put j.d v' t) H':=by
     intro v' H' hnm hok K hK
     unfold vci
     simp only [gt,hg,vca]
     refine (Out_a hia).2 ⟨q,v,o,q1,?_,hok,fun _=>(by rw [hih]; intro p hp; cases hp),?_⟩
     ·rw [hnm,newV_congr (si v')]; exact q2
     ·rw [hnm]; exact hK
    unfold vci
    simp only at q5 ⊢
    rw [gj] at q5
    cases hgj:gd j.g t with
    | none=>simp only [hgj] at q5
    | some b =>
     cases b with
     | false =>
      simp only [hgj] at q5 ⊢
      rw [pp] at q5
      by_cases hbj:j.bm=0
      ·rw [hbj,bmp_zero] at q5 ⊢
       exact back _ _ rfl q3 _ q5
      ·exact absurd hjb hbj
     | true =>
      simp only [hgj,vca] at q5 ⊢
      rw [Out_congr (sj v)] at q5
      rcases hpj with hc | hc
      ·obtain ⟨v',v1,_,v2⟩:=(Out_pr (.inl hc)).1 q5
       rw [pp] at v2
       rw [pureV_p (H':=H) hc] at v1
       exact (Out_pr (.inl hc)).2 ⟨v',v1,fun hb=>(by cases hb),back _ _ rfl q3 _ v2⟩
      ·obtain ⟨q',v',o',r1,r2,r3,r4,r5⟩:=(Out_a hc).1 q5
       obtain ⟨p1,p2,p3⟩:=hp hc
       rw [pp] at r5
       rw [nm_set] at r2 r5
       have hfq:H.f (H.nm q)=none:=nm_none p1 (p2 q q1) q3
       have hqq:q≠q':=by
        simp only [hia,hc,q1,r1,Bool.and_eq_true,Bool.not_eq_true'] at hs
        intro he; subst he; simp at hs
       have hjh:hj=[]:=by
        simp only [hia,hc,Bool.and_eq_true,List.isEmpty_iff] at hs
        exact hs.1.2
       have hnmne:H.nm q≠H.nm q'∧H.nmOk q'∧(H.set (H.nm q') o').nmOk q:=by
        unfold AH.nmOk at r3 q3 ⊢
        unfold AH.nm at *
        simp only [AH.set] at r3 ⊢
        cases s1:H.sup[q]? with
        | some m =>
         simp only [s1] at *
         cases s2:H.sup[q']? with
         | some n =>
          simp only [s2] at *
          have hne:n≠m:=fun he=>by have:=r3.2; rw [if_pos he] at this; cases this
          have:=r3.2
          rw [if_neg hne] at this
          refine ⟨Ne.symm hne,⟨r3.1,this⟩,q3.1,?_⟩
          rw [if_neg (Ne.symm hne)]; exact q3.2
         | none =>
          simp only [s2] at *
          have hne:m≠⟨0,H.k,q'⟩:=fun he=>q3.1 (by rw [he])
          refine ⟨hne,trivial,q3.1,?_⟩
          rw [if_neg hne]; exact q3.2
        | none =>
         simp only [s1] at *
         cases s2:H.sup[q']? with
         | some n =>
          simp only [s2] at *
          have hne:n≠⟨0,H.k,q⟩:=fun he=>r3.1 (by rw [he])
          have:=r3.2
          rw [if_neg hne] at this
          exact ⟨Ne.symm hne,⟨r3.1,this⟩,trivial⟩
         | none =>
          simp only [s2] at *
          refine ⟨?_,trivial,trivial⟩
          intro he; injection he with _ _ he
          exact hqq (by omega)
       refine (Out_a hc).2 ⟨q',v',o',r1,r2,hnmne.2.1,fun hb=>(by rw [hjh]; intro p hp; unfold dropH at hp; split at hp <;> simp at hp),?_⟩
       refine back v' (H.set (H.nm q') o') rfl hnmne.2.2 _ ?_
       rw [← set_comm hnmne.1]
       exact r5
end
end Go.Ab

