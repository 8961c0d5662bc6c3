/- What the proofs of LogFinishes need, part 1: the walks of the program's functions and the plain laws about them. -/
import Derived.Tactics
import Derived.Orders
import Derived.Below
import Derived.KernelRfl
import Derived.Laws.Sem
import Derived.Laws.Entries
import Derived.Laws.Slices
import Derived.Laws.Cells
import Derived.Laws.Small
import Derived.Laws.Runes
import Derived.Laws.Pointers
import Derived.Laws.Cover3
import Derived.Laws.StructEq
import Derived.OrdersHeld
import Derived.Still
import Derived.Laws.CopyRow
import Derived.Laws.AppendOwn
import Derived.Deep.LoopGhost
import Derived.Laws.OwnMore
import Derived.Laws.BytesString
import Derived.Laws.Cover4
import Derived.ScopeJumps
set_option linter.unusedSimpArgs false
set_option linter.unusedVariables false
set_option maxHeartbeats 4000000
namespace Go.Proofs.YtjjcnhgpccancaaGreatDoor.X
open Go
abbrev hJ:=@List.length_append
abbrev hZ:=@List.length_map
abbrev ia:=@Option.some.inj
abbrev ib:=@Prod.mk.injEq
abbrev ic:=@Nat.lt_of_lt_of_le
abbrev ie:=@List.append_assoc
abbrev ig:=@List.getElem?_eq_getElem
abbrev ii:=@Bool.and_eq_true
abbrev ij:=@Option.some.injEq
abbrev ik:=@List.getD_eq_getElem?_getD
abbrev il:=@Int.toNat_natCast
abbrev im:=@List.length_take
abbrev io:=@List.getElem?_eq_some_iff
abbrev ip:=@decide_eq_true_eq
abbrev iq:=@Nat.le_trans
abbrev ir:=@Nat.zero_le
abbrev iu:=@List.length_replicate
abbrev iv:=@Bool.false_eq_true
abbrev iw:=@List.getElem?_append_left
abbrev iy:=@List.eq_nil_of_length_eq_zero
abbrev iz:=@List.length_cons
abbrev iA:=@List.mem_singleton
abbrev iB:=@Option.map_eq_some_iff
abbrev iC:=@Prod.mk.inj
abbrev iD:=@List.mem_append
abbrev iE:=@Nat.le_refl
abbrev iF:=@List.getElem?_append_right
abbrev iG:=@List.length_drop
abbrev iH:=@List.append_nil
abbrev iI:=@List.map_append
abbrev iJ:=@Nat.zero_add
abbrev iK:=@of_decide_eq_true
abbrev iL:=@Nat.lt_or_ge
abbrev iM:=@List.getElem?_map
abbrev iN:=@Nat.mul_one
abbrev iO:=@List.nil_append
abbrev iP:=@List.length_nil
abbrev iQ:=@Bool.eq_iff_iff
abbrev iR:=@List.length_set
abbrev iS:=@List.mem_of_mem_take
abbrev iT:=@ByteArray.size_append
abbrev iU:=@beq_iff_eq
abbrev iV:=@List.take_append_drop
abbrev iW:=@List.mem_of_mem_drop
abbrev iY:=@Bool.eq_false_iff
abbrev j0:=@Nat.not_lt_zero
abbrev j1:=@decide_eq_true
abbrev j2:=@Nat.add_le_add
abbrev j3:=@List.all_eq_true
abbrev j4:=@List.take_succ_eq_append_getElem
abbrev j5:=@List.getElem?_take
abbrev j6:=@List.mem_cons_of_mem
abbrev j7:=@List.mem_map
abbrev j8:=@Int.toNat_of_nonneg
abbrev j9:=@List.mem_cons
abbrev ja:=@false_and
abbrev jb:=@and_false
abbrev jc:=@List.take_length
abbrev jd:=@List.mem_cons_self
abbrev je:=@List.take_of_length_le
abbrev jf:=@List.not_mem_nil
abbrev jg:=@List.getElem?_drop
abbrev jh:=@List.mem_map_of_mem
abbrev ji:=@false_iff
abbrev jj:=@List.flatMap_cons
abbrev jk:=@Array.getElem?_eq_none
abbrev jl:=@of_decide_eq_false
abbrev jm:=@Nat.eq_zero_or_pos
abbrev jn:=@List.getElem?_eq_none
abbrev jo:=@List.getElem?_set_ne
abbrev jp:=@List.mem_or_eq_of_mem_set
abbrev jq:=@List.getElem?_set_self
abbrev jr:=@decide_eq_false
abbrev js:=@Array.toList_inj
abbrev jt:=@beq_eq_false_iff_ne
abbrev ju:=@Bool.not_eq_true'
abbrev jv:=@List.length_singleton
abbrev jx:=@Bool.or_eq_true
abbrev jy:=@List.flatMap_nil
abbrev jz:=@List.mem_range
abbrev jA:=@List.map_congr_left
abbrev jB:=@List.map_map
abbrev jC:=@List.eq_of_mem_replicate
abbrev jD:=@List.mem_of_getElem?
abbrev jE:=@List.map_inj_left
abbrev jF:=@List.drop_eq_nil_of_le
abbrev jG:=@List.getElem_mem
abbrev jH:=@Bool.false_ne_true
abbrev jI:=@List.set_eq_take_append_cons_drop
abbrev jJ:=@Nat.shiftRight_eq_div_pow
abbrev jK:=@Nat.min_eq_left
abbrev jL:=@List.replicate_succ'
abbrev jM:=@Array.toArray_toList
abbrev jN:=@Option.isSome_iff_exists
abbrev jO:=@Bool.true_and
abbrev jP:=@List.take_append_of_le_length
abbrev jQ:=@List.drop_append_of_le_length
abbrev jR:=@Nat.add_assoc
abbrev jS:=@Array.getD_eq_getD_getElem?
abbrev jT:=@Nat.pow_le_pow_right
abbrev jU:=@List.take_left
abbrev jV:=@Int.fdiv_eq_ediv_of_nonneg
abbrev jW:=@Nat.mod_eq_of_lt
abbrev jX:=@List.drop_eq_getElem_cons
abbrev jY:=@List.flatMap_append
abbrev jZ:=@Array.length_toList
abbrev k4:=@List.map_take
abbrev k5:=@List.map_cons
abbrev k6:=@Bool.and_true
abbrev k7:=@List.drop_drop
abbrev k8:=@ByteArray.size_extract
abbrev k9:=@Bool.false_and
abbrev kd:=@List.mem_append_right
abbrev ke:=@List.getElem_map
abbrev kf:=@List.cons_ne_nil
abbrev kh:=@List.getElem?_of_mem
abbrev ki:=@List.map_eq_nil_iff
abbrev km:=@Nat.zero_mul
abbrev kq:=@Nat.mod_two_eq_zero_or_one
abbrev ku:=@Array.getElem?_eq_some_iff
abbrev kv:=@List.getElem_append_right
abbrev kw:=@List.getElem_append_left
abbrev kA:=@Array.setIfInBounds_comm
abbrev kB:=@Option.map_some
abbrev kC:=@Nat.add_sub_cancel
abbrev Fr:=List (Nat×Value)
def get:Fr->Nat->Option Value
 |[],_=>none
 |(k,v)::r,t=>if k=t then some v else get r t
structure Has (N:Nat)(f:Fr)(a:Act):Prop where
 size:a.tmps.size=N
 defers:a.defers=[]
 get:∀t v,get f t=some v->a.tmps.getD t undef=v
theorem Has.put {N:Nat}{f:Fr}{a:Act}(h:Has N f a)(d:Nat)(hd:d<N)(v:Value):Has N ((d,v)::f) (a.put (some d) v):=by
 refine⟨by simp[Act.put,h.size],h.defers,fun t u hg=>?_⟩;simp only[X.get]at hg;have hs:=h.size;by_cases e:d=t
 ·rw[if_pos e]at hg
  subst e;obtain rfl:=ia hg;simp[Act.put,hs,hd]
 ·rw[if_neg e]at hg
  have:=h.get t u hg;simp only[Act.put,jS]at this⊢;rw[Array.getElem?_setIfInBounds_ne e];exact this
theorem Has.none {N:Nat}{f:Fr}{a:Act}(h:Has N f a)(v:Value):Has N f (a.put none v):=h
def keep (ks:List Nat)(f:Fr):Fr:=ks.filterMap fun k=>(get f k).map fun v=>(k,v)
theorem get_keep (f:Fr)(t:Nat)(v:Value):∀ks,get (keep ks f) t=some v->get f t=some v:=by
 intro ks
 induction ks with
 |nil=>intro h;simp[keep,get]at h
 |cons k ks ih=>
  intro h;simp only[keep,List.filterMap_cons]at h ih;cases hk:get f k with
  |none=>rw[hk]at h;exact ih h
  |some u=>
   rw[hk]at h;simp only[kB,get]at h;by_cases e:k=t
   ·rw[if_pos e]at h;subst e;rw[hk];exact h
   ·rw[if_neg e]at h;exact ih h
theorem Has.keep {N:Nat}{f:Fr}{a:Act}(h:Has N f a)(ks:List Nat):Has N (keep ks f) a:=
 ⟨h.size,h.defers,fun t v hg=>h.get t v (get_keep f t v ks hg)⟩
def ev (f:Fr):Operand->Option Value
 | .tmp t=>get f t
 | .const v=>some v
 | .global g=>some (.pointer (some ⟨g,0,none⟩))
 | .func g=>some (.func (.func g) #[] #[])
theorem qC {N:Nat}{f:Fr}{a:Act}(h:Has N f a){x:Operand}{v:Value}(e:ev f x=some v):a.eval x=v:=by
 cases x with
 |tmp t=>exact h.get t v e
 |const u=>exact ia e
 |global g=>exact ia e
 |func g=>exact ia e
def qc6:List (World->Prop)->World->Prop
 |[],_=>True
 |c::cs,w=>c w/\qc6 cs w
theorem AllC_append {w:World}:∀{xs ys:List (World->Prop)},qc6 (xs++ys) w↔qc6 xs w/\qc6 ys w
 |[],ys=>by simp[qc6]
 |x::xs,ys=>by simp[qc6,AllC_append (xs:=xs),and_assoc]
def InR (k:IntKind)(n:Int):Prop:=
 match k with
 | .i8=> -128<=n/\n<=127
 | .i16=> -32768<=n/\n<=32767
 | .i32=> -2147483648<=n/\n<=2147483647
 | .i64=> -9223372036854775808<=n/\n<=9223372036854775807
 | .u8=>0<=n/\n<=255
 | .u16=>0<=n/\n<=65535
 | .u32=>0<=n/\n<=4294967295
 | .u64=>0<=n/\n<=18446744073709551615
theorem qbm {k:IntKind}{n:Int}(h:InR k n):k.wrap n=n:=by
 cases k<;>simp only[InR]at h<;>simp[IntKind.wrap,IntKind.bits,IntKind.signed]<;>omega
def bt (s:ByteArray)(i:Int):Int:=if h:i.toNat<s.size then((s[i.toNat]'h).toNat:Int)else 0
theorem qcZ (s:ByteArray)(i:Int):0<=bt s i/\bt s i<=255:=by
 unfold bt;split
 ·rename_i h
  have:=(s[i.toNat]'h).toNat_lt;omega
 ·omega
abbrev Ans:=Value×List (World->Prop)×List Value
abbrev pX (b:Nat):Value:= .pointer (some ⟨b,0,none⟩)
abbrev iX (n:Int):Value:= .int .i64 n
abbrev uX (n:Int):Value:= .int .u8 n
abbrev rX (n:Int):Value:= .int .i32 n
abbrev cX (b o:Nat)(v:Value):World->Prop:=fun w=>w.cell? ⟨b,o,none⟩=some v
def qfj (P:Program)(t:TypeId):Option Nat:=(P.info? t).map (·.size)
def qly (P:Program)(t:TypeId):Option Bool:=(P.underlying t).map fun d=>match d with| .struct _| .array _ _=>true|_=>false
def qcs (b o:Nat):List Value->List (World->Prop)
 |[]=>[]
 |v::vs=>(fun w=>w.cell? ⟨b,o,none⟩=some v)::qcs b (o+1) vs
def loadC (P:Program)(t:TypeId)(b o:Nat)(v:Value):Option (List (World->Prop)):=
 match qly P t,qfj P t,v with
 |some true,some n,.agg cs=>if cs.size=n then some (qcs b o cs.toList)else none
 |some false,_,v=>some [fun w=>w.cell? ⟨b,o,none⟩=some v]
 |_,_,_=>none
def qj9 (nw:Bool)(k:IntKind)(n:Int):Value×List (World->Prop):=if nw then(.int k n,[fun _=>InR k n])else(.int k (k.wrap n),[])
def wide (k:IntKind):Bool:=match k with| .i64| .i32=>true|_=>false
def qe (op:BinOp)(k:IntKind)(x y:Int):Int:=
 let a:=BitVec.ofInt k.bits x
 let b:=BitVec.ofInt k.bits y
 match op with
 | .and=>k.wrap (a&&&b).toNat
 | .or=>k.wrap (a|||b).toNat
 | .xor=>k.wrap (a^^^b).toNat
 |_=>k.wrap (a&&& ~~~b).toNat
def intv (alt:Bool)(op:BinOp)(k:IntKind)(a b:Int):Option (Value×List (World->Prop)):=
 match op with
 | .add=>some (qj9 (wide k !=alt) k (a+b))
 | .sub=>some (qj9 (wide k !=alt) k (a-b))
 | .mul=>some (qj9 (wide k !=alt) k (a*b))
 | .quo=>some (.int k (a/b),[fun _=>0<=a/\0<b,fun _=>InR k (a/b)])
 | .rem=>some (.int k (a % b),[fun _=>0<=a/\0<b])
 | .and=>some (.int k (qe .and k a b),[])
 | .or=>some (.int k (qe .or k a b),[])
 | .xor=>some (.int k (qe .xor k a b),[])
 | .andNot=>some (.int k (qe .andNot k a b),[])
 | .eql=>some (.bool (a==b),[])
 | .neq=>some (.bool (a !=b),[])
 | .lss=>some (.bool (decide (a<b)),[])
 | .leq=>some (.bool (decide (a<=b)),[])
 | .gtr=>some (.bool (decide (b<a)),[])
 | .geq=>some (.bool (decide (b<=a)),[])
 |_=>none
theorem intv_run {P:Program}{w:World}{alt:Bool}{op:BinOp}{k:IntKind}{a b:Int}{v:Value}{cs:List (World->Prop)}{t:TypeId}
  (h:intv alt op k a b=some (v,cs)) (hc:qc6 cs w):(binOp op t (.int k a) (.int k b)).run P w= .ok v w:=by
 cases op<;>simp only[intv,ij,ib,reduceCtorEq]at h
 case add=>
  unfold qj9 at h;split at h<;>simp only[ib]at h<;>obtain⟨rfl,rfl⟩:=h
  ·simp[binOp,Op.intArith,qbm hc.1]
  ·simp[binOp,Op.intArith]
 case sub=>
  unfold qj9 at h;split at h<;>simp only[ib]at h<;>obtain⟨rfl,rfl⟩:=h
  ·simp[binOp,Op.intArith,qbm hc.1]
  ·simp[binOp,Op.intArith]
 case mul=>
  unfold qj9 at h;split at h<;>simp only[ib]at h<;>obtain⟨rfl,rfl⟩:=h
  ·simp[binOp,Op.intArith,qbm hc.1]
  ·simp[binOp,Op.intArith]
 case quo=>
  obtain⟨rfl,rfl⟩:=h;obtain⟨⟨c,e⟩,f,_⟩:=hc;have d:b≠0:=by omega
  simp[binOp,Op.intDiv,d,Int.tdiv_eq_ediv_of_nonneg c,qbm f]
 case rem=>
  obtain⟨rfl,rfl⟩:=h;obtain⟨⟨c,e⟩,_⟩:=hc;have d:b≠0:=by omega
  simp[binOp,Op.intDiv,d,Int.tmod_eq_emod_of_nonneg c]
 all_goals
  obtain⟨rfl,rfl⟩:=h;simp[binOp,Op.intBits,Op.intCmp,qe]
abbrev oX:Value:= .string ByteArray.empty
abbrev xF:Value:= .bool false
abbrev nX:Value:= .slice none 0 0
theorem sA:(∀p:Prop,(p/\True)=p)/\(∀p:Prop,(p/\p)=p)/\(∀p:Prop,(True/\p)=p)/\(∀p:Prop,(p\/True)=True)/\(∀p:Prop,(True\/p)=True)/\(∀p:Prop,(p\/False)=p)/\(∀p:Prop,(False\/p)=p)/\(∀p:Prop,(p/\False)=False)/\(∀p:Prop,(False/\p)=False)/\((¬True)=False)/\((¬False)=True):=by simp
theorem sB:((false=true)=False)/\((true=false)=False)/\(∀p:Prop,(p/\True)=p)/\(∀p:Prop,(True/\p)=p)/\(∀p:Prop,(p/\False)=False)/\(∀p:Prop,(False/\p)=False)/\(∀p:Prop,(p\/True)=True)/\(∀p:Prop,(True\/p)=True)/\(∀p:Prop,(p\/False)=p)/\(∀p:Prop,(False\/p)=p)/\(∀b:Bool,(b&&true)=b)/\(∀b:Bool,(true&&b)=b)/\(∀b:Bool,(b&&false)=false)/\(∀b:Bool,(false&&b)=false):=by simp
end Go.Proofs.YtjjcnhgpccancaaGreatDoor.X
namespace Go.Proofs.YtjjcnhgpccancaaGreatDoor.X
open Go
theorem qL {P:Program}{t:TypeId}{d:TypeDesc}(h:P.underlying t=some d)(w:World):(underlying t).run P w= .ok d w:=run_underlying h w
theorem qbr {P:Program}{t:TypeId}{n:Nat}(h:qfj P t=some n)(w:World):(sizeOf t).run P w= .ok n w:=by
 unfold qfj at h;cases hi:P.info? t with
 |none=>rw[hi]at h;cases h
 |some i=>rw[hi]at h;simp at h;simp[sizeOf,typeInfo,hi,h]
theorem qaZ (b o n:Nat):(⟨b,o,none⟩:Addr).add n=⟨b,o+n,none⟩:=by
 unfold Addr.add;split
 ·rename_i h;subst h;rfl
 ·rfl
theorem qep {P:Program}{t:TypeId}{r:Bool}(h:qly P t=some r)(w:World):(isAgg t).run P w= .ok r w:=by
 unfold qly at h;cases hu:P.underlying t with
 |none=>rw[hu]at h;cases h
 |some d=>
  rw[hu]at h;simp only[kB,ij]at h;subst h;simp only[isAgg,Sem.run_bind,qL hu,Result.andThen_ok];cases d<;>rfl
theorem qhr {w:World}{b:Nat}:∀{vs:List Value} {o:Nat},qc6 (qcs b o vs) w-> ∀(j:Nat) v,vs[j]? =some v->w.cell? ⟨b,o+j,none⟩=some v
 |[],_,_,j,v,h=>by simp at h
 |u::vs,o,hc,j,v,h=>by
  cases j with
  |zero=>simp at h;subst h;exact hc.1
  |succ j=>
   have:=qhr hc.2 j v (by simpa using h)
   rw[show o+(j+1)=o+1+j by omega]
   exact this
theorem qja {P:Program}{t:TypeId}{b o:Nat}{v:Value}{cs:List (World->Prop)}{w:World}(h:loadC P t b o v=some cs)(hc:qc6 cs w):
  (loadVar t ⟨b,o,none⟩).run P w= .ok v w:=by
 unfold loadC at h;split at h
 ·rename_i n vs ha hs
  split at h
  ·rename_i hn
   obtain rfl:=ia h;have:=run_loadCells_list (P:=P) (w:=w) ⟨b,o,none⟩ vs.toList (fun j u hu=>by rw[qaZ];exact qhr hc j u hu);rw[show vs.toList.length=n by simpa using hn]at this;simp[loadVar,qep ha,qbr hs,this]
  ·cases h
 ·rename_i u ha
  obtain rfl:=ia h;have:=hc.1;simp[loadVar,qep ha,this]
 ·cases h
def bnd (f:Fr):Option Operand->Option (Option Int)
 |none=>some none
 |some x=>match ev f x with
  |some (.int _ i)=>some (some i)
  |_=>none
def lo0:Option Int->Nat
 |none=>0
 |some i=>i.toNat
def hi0 (n:Nat):Option Int->Nat
 |none=>n
 |some i=>i.toNat
def qhg (n:Nat):Option Int->List (World->Prop)
 |none=>[]
 |some i=>[fun _=>0<=i/\i<=n]
def qo3 (P:Program)(alt:Bool)(t:TypeId)(x:Value)(lo hi:Option Int):Option (Value×List (World->Prop)):=
 match P.underlying t,x with
 |some .string,.string s=>some (.string (s.extract (lo0 lo) (hi0 s.size hi)),qhg s.size hi++qhg (hi0 s.size hi) lo)
 |some (.slice e),.slice a len cap=>match qfj P e,lo,a with
  |some _,none,a=>some (.slice a (hi0 len hi) cap,qhg cap hi)
  |some _,some l,none=>some (.slice none (hi0 len hi-l.toNat) (cap-l.toNat),qhg cap hi++qhg (hi0 len hi) (some l))
  |some sz,some l,some ⟨b,o,none⟩=>if alt then some (.slice (some ⟨b,o+l.toNat*sz,none⟩) (hi0 len hi-l.toNat) (cap-l.toNat),qhg cap hi++qhg (hi0 len hi) (some l)++[(fun _=>l.toNat<cap:World->Prop)])
   else some (.slice (some ⟨b,if cap=l.toNat then o else o+l.toNat*sz,none⟩) (hi0 len hi-l.toNat) (cap-l.toNat),qhg cap hi++qhg (hi0 len hi) (some l))
  |_,_,_=>none
 |some (.array n e),.pointer (some a)=>match qfj P e,lo,a with
  |some _,none,a=>some (.slice (some a) (hi0 n hi) n,qhg n hi)
  |some sz,some l,⟨b,o,none⟩=>if alt then some (.slice (some ⟨b,o+l.toNat*sz,none⟩) (hi0 n hi-l.toNat) (n-l.toNat),qhg n hi++qhg (hi0 n hi) (some l)++[(fun _=>l.toNat<n:World->Prop)])
   else some (.slice (some ⟨b,if n=l.toNat then o else o+l.toNat*sz,none⟩) (hi0 n hi-l.toNat) (n-l.toNat),qhg n hi++qhg (hi0 n hi) (some l))
  |_,_,_=>none
 |_,_=>none
theorem qfk {P:Program}{w:World}{k:IntKind}{i:Int}{n:Nat}{code:BoundsCode}(h:0<=i/\i<=n):(Instr.sliceBound (.int k i) n code).run P w= .ok i.toNat w:=
 run_sliceBound w k i n code h.1 h.2
def qmM (v:Option Value)(i:Option Int):Prop:=
 match i with
 |none=>v=none
 |some i=> ∃k,v=some (.int k i)
theorem qah {P:Program}{w:World}{isS:Bool}{len cap:Nat}{lo hi:Option Value}{l h:Option Int}(hl:qmM lo l)(hh:qmM hi h)
  (h1:qc6 (qhg cap h) w) (h2:qc6 (qhg (hi0 len h) l) w):(Instr.sliceBounds isS len cap lo hi none).run P w= .ok (lo0 l,hi0 len h,cap) w:=by
 cases l<;>cases h<;>simp only[qmM]at hl hh
 ·subst hl;subst hh
  simp[Instr.sliceBounds,lo0,hi0]
 ·obtain⟨k,rfl⟩:=hh;subst hl
  simp only[qhg,qc6]at h1;simp[Instr.sliceBounds,lo0,hi0,qfk h1.1]
 ·obtain⟨k,rfl⟩:=hl;subst hh
  simp only[qhg,qc6,hi0]at h2;simp[Instr.sliceBounds,lo0,hi0,qfk h2.1]
 ·obtain⟨k,rfl⟩:=hl;obtain⟨k',rfl⟩:=hh
  simp only[qhg,qc6,hi0]at h1 h2;simp[Instr.sliceBounds,lo0,hi0,qfk h1.1,qfk h2.1]
theorem qmN {P:Program}{w:World}{alt:Bool}{t:TypeId}{x v:Value}{lo hi:Option Value}{l h:Option Int}{cs:List (World->Prop)}
  (hs:qo3 P alt t x l h=some (v,cs)) (hl:qmM lo l) (hh:qmM hi h) (hc:qc6 cs w):(Instr.sliceAt t x lo hi none).run P w= .ok v w:=by
 unfold qo3 at hs;split at hs
 ·rename_i s hu
  simp only[ij,ib]at hs;obtain⟨rfl,rfl⟩:=hs;rw[AllC_append]at hc;simp[Instr.sliceAt,qL hu,Instr.slice,qah (P:=P) hl hh hc.1 hc.2]
 ·rename_i e a len cap hu
  split at hs
  ·rename_i n c
   simp only[ij,ib]at hs;obtain⟨rfl,rfl⟩:=hs;have hb:=qah (P:=P) (isS:=true) (len:=len) (cap:=cap) hl hh hc (by simp[qhg,qc6]);simp only[Instr.sliceAt,qL hu,Sem.run_bind,Result.andThen_ok,Instr.slice,hb,qbr c,lo0,km,Nat.sub_zero,Sem.run_pure];congr 2;split
   ·rfl
   ·have d:(fun x:Addr=>x.add 0)=id:=by funext x;simp[Addr.add]
    rw[d,Option.map_id];rfl
  ·rename_i sz l c
   simp only[ij,ib]at hs;obtain⟨rfl,rfl⟩:=hs;rw[AllC_append]at hc;have hb:=qah (P:=P) (isS:=true) (len:=len) (cap:=cap) hl hh hc.1 hc.2;simp only[Instr.sliceAt,qL hu,Sem.run_bind,Result.andThen_ok,Instr.slice,hb,qbr c,lo0,Sem.run_pure];congr 2;split<;>rfl
  ·rename_i sz l b o c
   split at hs
   ·simp only[ij,ib]at hs
    obtain⟨rfl,rfl⟩:=hs;rw[AllC_append,AllC_append]at hc;have hb:=qah (P:=P) (isS:=true) (len:=len) (cap:=cap) hl hh hc.1.1 hc.1.2;have f:=hc.2.1;simp only[Instr.sliceAt,qL hu,Sem.run_bind,Result.andThen_ok,Instr.slice,hb,qbr c,lo0,Sem.run_pure];rw[if_neg (by omega)];simp[qaZ]
   ·simp only[ij,ib]at hs
    obtain⟨rfl,rfl⟩:=hs;rw[AllC_append]at hc;have hb:=qah (P:=P) (isS:=true) (len:=len) (cap:=cap) hl hh hc.1 hc.2;simp only[Instr.sliceAt,qL hu,Sem.run_bind,Result.andThen_ok,Instr.slice,hb,qbr c,lo0,Sem.run_pure];congr 2;split<;>simp[qaZ]
  ·cases hs
 ·rename_i n e a hu
  split at hs
  ·rename_i m c
   simp only[ij,ib]at hs;obtain⟨rfl,rfl⟩:=hs;have hb:=qah (P:=P) (isS:=false) (len:=n) (cap:=n) hl hh hc (by simp[qhg,qc6]);simp only[Instr.sliceAt,qL hu,Sem.run_bind,Result.andThen_ok,Instr.sureAddr,hb,qbr c,lo0,km,Nat.sub_zero,Sem.run_pure];congr 2;split
   ·rfl
   ·simp[Addr.add]
  ·rename_i sz l b o c
   split at hs
   ·simp only[ij,ib]at hs
    obtain⟨rfl,rfl⟩:=hs;rw[AllC_append,AllC_append]at hc;have hb:=qah (P:=P) (isS:=false) (len:=n) (cap:=n) hl hh hc.1.1 hc.1.2;have f:=hc.2.1;simp only[Instr.sliceAt,qL hu,Sem.run_bind,Result.andThen_ok,Instr.sureAddr,hb,qbr c,lo0,Sem.run_pure];rw[if_neg (by omega)];simp[qaZ]
   ·simp only[ij,ib]at hs
    obtain⟨rfl,rfl⟩:=hs;rw[AllC_append]at hc;have hb:=qah (P:=P) (isS:=false) (len:=n) (cap:=n) hl hh hc.1 hc.2;simp only[Instr.sliceAt,qL hu,Sem.run_bind,Result.andThen_ok,Instr.sureAddr,hb,qbr c,lo0,Sem.run_pure];congr 2;split<;>simp[qaZ]
  ·cases hs
 ·cases hs
def qo4 (P:Program)(t:TypeId)(x i:Value):Option (Value×List (World->Prop)):=
 match P.underlying t,x,i with
 |some (.slice e),.slice (some ⟨b,o,none⟩) len _,.int _ i=>(qfj P e).map fun s=>(.pointer (some ⟨b,o+i.toNat*s,none⟩),[fun _=>0<=i/\i<len])
 |some (.array n e),.pointer (some ⟨b,o,none⟩),.int _ i=>(qfj P e).map fun s=>(.pointer (some ⟨b,o+i.toNat*s,none⟩),[fun _=>0<=i/\i<n])
 |_,_,_=>none
theorem qmO {P:Program}{w:World}{t:TypeId}{x i v:Value}{cs:List (World->Prop)}(h:qo4 P t x i=some (v,cs))(hc:qc6 cs w):
  (Instr.indexAt t x i).run P w= .ok v w:=by
 unfold qo4 at h;split at h
 ·rename_i e b o a c k i hu
  simp only[iB,ib]at h;obtain⟨s,hs,rfl,rfl⟩:=h;have hi:=hc.1;simp[Instr.indexAt,qL hu,asIntOf,hi,qbr hs,qaZ]
 ·rename_i n e b o k i hu
  simp only[iB,ib]at h;obtain⟨s,hs,rfl,rfl⟩:=h;have hi:=hc.1;simp[Instr.indexAt,qL hu,asIntOf,Instr.sureAddr,hi,qbr hs,qaZ]
 ·cases h
def qo5 (P:Program)(s:TypeId)(x:Value)(i:Nat):Option Value:=
 match P.underlying s,x with
 |some (.struct fs),.pointer (some ⟨b,o,none⟩)=>match fs[i]? with
  |some fd=>match qfj P fd.type with
   |some (_+1)=>some (.pointer (some ⟨b,o+fd.offset,none⟩))
   |_=>none
  |none=>none
 |_,_=>none
theorem qmP {P:Program}{w:World}{s:TypeId}{x v:Value}{i:Nat}(h:qo5 P s x i=some v):(Instr.fieldAt s x i).run P w= .ok v w:=by
 unfold qo5 at h;split at h
 ·rename_i fs b o hu
  split at h
  ·rename_i fd hf
   split at h
   ·rename_i n hs
    obtain rfl:=ia h;simp[Instr.fieldAt,qL hu,hf,Instr.sureAddr,fieldPlace,qbr hs,qaZ]
   ·cases h
  ·cases h
 ·cases h
def qjb (P:Program)(t:TypeId)(cs:Array Value)(off:Nat):Option Value:=
 match qly P t,qfj P t with
 |some true,some n=>some (.agg (cs.extract off (off+n)))
 |some false,_=>cs[off]?
 |_,_=>none
theorem qcH {P:Program}{w:World}{t:TypeId}{cs:Array Value}{off:Nat}{v:Value}(h:qjb P t cs off=some v):(part t cs off).run P w= .ok v w:=by
 unfold qjb at h;split at h
 ·rename_i n ha hs
  obtain rfl:=ia h;simp[part,qep ha,qbr hs]
 ·rename_i ha
  simp[part,qep ha,h]
 ·cases h
def strIx (P:Program)(t:TypeId)(x i:Value):Option (Value×List (World->Prop)):=
 match P.underlying t,x,i with
 |some .string,.string s,.int _ i=>some (.int .u8 (bt s i),[fun _=>0<=i/\i<s.size])
 |some (.array n e),.agg cs,.int _ i=>if 0<=i/\i<n then(qfj P e).bind fun z=>(qjb P e cs (i.toNat*z)).map fun v=>(v,[])else none
 |_,_,_=>none
theorem qo6 {P:Program}{w:World}{t:TypeId}{x i v:Value}{cs:List (World->Prop)}(h:strIx P t x i=some (v,cs))(hc:qc6 cs w):
  (Instr.index t x i).run P w= .ok v w:=by
 unfold strIx at h;split at h
 ·rename_i s k i hu
  simp only[ij,ib]at h;obtain⟨rfl,rfl⟩:=h;have hi:=hc.1;have a:i.toNat<s.size:=by omega
  simp[Instr.index,qL hu,asIntOf,hi.1,bt,a]
 ·rename_i n e b k i hu
  split at h
  ·rename_i hi
   simp only[Option.bind_eq_some_iff,iB,ib]at h;obtain⟨z,hz,v',hv,rfl,rfl⟩:=h;simp[Instr.index,qL hu,asIntOf,hi,qbr hz,qcH hv]
  ·cases h
 ·cases h
def qkH (P:Program)(t:TypeId)(x:Value)(i:Nat):Option Value:=
 match P.underlying t,x with
 |some (.struct fs),.agg cs=>match fs[i]? with
  |some fd=>qjb P fd.type cs fd.offset
  |none=>none
 |_,_=>none
theorem qkI {P:Program}{w:World}{t:TypeId}{x v:Value}{i:Nat}(h:qkH P t x i=some v):(Instr.field t x i).run P w= .ok v w:=by
 unfold qkH at h;split at h
 ·rename_i fs cs hu
  split at h
  ·rename_i fd hf
   simp[Instr.field,qL hu,hf,asAgg,qcH h]
  ·cases h
 ·cases h
def qo7 (P:Program)(t:TypeId)(parts:List (Nat×Value)):Option Value:=
 match(P.info? t).bind (·.zero),P.underlying t with
 |some z,some (.struct fs)=>match fs.toList.mapM (fun fd=>(qfj P fd.type).map fun n=>(fd.offset,n))with
  |some places=>(Instr.fill (places[·]?) z.cells parts).map .agg
  |none=>none
 |some z,some (.array _ e)=>match qfj P e with
  |some n=>(Instr.fill (fun i=>some (i*n,n)) z.cells parts).map .agg
  |none=>none
 |_,_=>none
def qib (f:Field):Sem (Nat×Nat):=do pure (f.offset,<-sizeOf f.type)
theorem qhs {P:Program}{w:World}:∀(fs:List Field) (places:List (Nat×Nat)),fs.mapM (fun fd=>(qfj P fd.type).map fun n=>(fd.offset,n))=some places->
  (fs.mapM qib).run P w= .ok places w
 |[],places,h=>by simp at h;subst h;simp
 |fd::fs,places,h=>by
  simp only[List.mapM_cons,Option.bind_eq_bind,Option.pure_def]at h
  cases hs:qfj P fd.type with
  |none=>rw[hs]at h;cases h
  |some n=>
   rw[hs]at h
   simp only[kB,Option.bind_some]at h
   cases hr:fs.mapM (fun fd=>(qfj P fd.type).map fun n=>(fd.offset,n))with
   |none=>rw[hr]at h;cases h
   |some ps=>
    rw[hr]at h
    simp only[Option.bind_some,ij]at h
    subst h
    have e:(qib fd).run P w= .ok (fd.offset,n) w:=by simp[qib,qbr hs]
    simp only[List.mapM_cons,Sem.run_bind,e,Result.andThen_ok,qhs fs ps hr,Sem.run_pure]
theorem qeq {P:Program}{t:TypeId}{z:Value}(h:(P.info? t).bind (·.zero)=some z)(w:World):(zeroValue t).run P w= .ok z w:=by
 cases hi:P.info? t with
 |none=>rw[hi]at h;cases h
 |some i=>rw[hi]at h;simp at h;simp[zeroValue,typeInfo,hi,h]
theorem qmQ {P:Program}{w:World}{t:TypeId}{parts:Array (Nat×Value)}{v:Value}(h:qo7 P t parts.toList=some v):(Instr.build t parts).run P w= .ok v w:=by
 unfold qo7 at h;split at h
 ·rename_i z fs hz hu
  split at h
  ·rename_i a hp
   simp only[iB]at h;obtain⟨cells,hf,rfl⟩:=h;have hm:(fs.mapM qib).run P w= .ok a.toArray w:=by
    rw[Array.mapM_eq_mapM_toList,Sem.run_map,qhs fs.toList a hp];rfl
   have hf':Instr.fill (fun x=>a.toArray[x]?) z.cells parts.toList=some cells:=by simpa using hf
   have hm':(fs.mapM (m:=Sem) fun f=>do pure (f.offset,<-sizeOf f.type)).run P w= .ok a.toArray w:=hm;simp only[Instr.build,Sem.run_bind,qeq hz,qL hu,Result.andThen_ok,hm',hf',Sem.run_pure]
  ·cases h
 ·rename_i z n e hz hu
  split at h
  ·rename_i m hs
   simp only[iB]at h;obtain⟨cells,hf,rfl⟩:=h;simp only[Instr.build,Sem.run_bind,qeq hz,qL hu,Result.andThen_ok,qbr hs,hf,Sem.run_pure]
  ·cases h
 ·cases h
end Go.Proofs.YtjjcnhgpccancaaGreatDoor.X
namespace Go.Proofs.YtjjcnhgpccancaaGreatDoor.X
open Go
def eqs (P:Program)(E:TypeId->Value->Value->Option Bool)(xs ys:Array Value):List Field->Option Bool
 |[]=>some true
 |f::fs=>if f.name= "_" then none else
  match qjb P f.type xs f.offset,qjb P f.type ys f.offset with
  |some a,some b=>match E f.type a b,eqs P E xs ys fs with
   |some r,some s=>some (r&&s)
   |_,_=>none
  |_,_=>none
def eqa (P:Program)(E:TypeId->Value->Value->Option Bool)(e:TypeId)(sz:Nat)(xs ys:Array Value):List Nat->Option Bool
 |[]=>some true
 |i::is=>match qjb P e xs (i*sz),qjb P e ys (i*sz)with
  |some a,some b=>match E e a b,eqa P E e sz xs ys is with
   |some r,some s=>some (r&&s)
   |_,_=>none
  |_,_=>none
def eqv (P:Program):Nat->TypeId->Value->Value->Option Bool
 |0,_,_,_=>none
 |d+1,t,x,y=>
  match P.underlying t,x,y with
  |some .bool,.bool a,.bool b=>some (a==b)
  |some (.int _),.int k a,.int k' b=>if k=k' then some (a==b)else none
  |some .string,.string a,.string b=>some (a.toList==b.toList)
  |some (.struct fs),.agg xs,.agg ys=>if P.stoodInHeld t then none else eqs P (eqv P d) xs ys fs.toList
  |some (.array n e),.agg xs,.agg ys=>match qfj P e with
   |some sz=>eqa P (eqv P d) e sz xs ys (List.range n)
   |none=>none
  |_,_,_=>none
theorem qo8 {P:Program}(w:World)(d:Nat)(E:TypeId->Value->Value->Option Bool)(hE:∀t x y r,E t x y=some r->(Op.equalIn d t x y).run P w= .ok r w)(xs ys:Array Value):
  ∀(fs:List Field) (r:Bool),eqs P E xs ys fs=some r->(Op.eqFields d xs ys fs).run P w= .ok r w
 |[],r,h=>by simp[eqs]at h;subst h;simp[Op.eqFields]
 |f::fs,r,h=>by
  unfold eqs at h
  split at h
  ·cases h
  ·rename_i hn
   split at h
   ·rename_i a b ha hb
    split at h
    ·rename_i q s hq hs
     obtain rfl:=ia h
     have h1:=hE f.type a b q hq
     have h2:=qo8 w d E hE xs ys fs s hs
     rw[Op.eqFields,if_pos hn]
     simp only[Sem.run_bind,qcH ha,qcH hb,Result.andThen_ok,h1]
     cases q
     ·simp
     ·simp[h2]
    ·cases h
   ·cases h
theorem qo9 {P:Program}(w:World)(d:Nat)(E:TypeId->Value->Value->Option Bool)(hE:∀t x y r,E t x y=some r->(Op.equalIn d t x y).run P w= .ok r w)(e:TypeId)(sz:Nat)(xs ys:Array Value):
  ∀(is:List Nat) (r:Bool),eqa P E e sz xs ys is=some r->
   (do
    let q<-forIn is ((none:Option Bool),()) fun i _=>do
     if !(<-Op.equalIn d e (<-part e xs (i*sz)) (<-part e ys (i*sz)))then pure (ForInStep.done (some false,()))else pure (ForInStep.yield (none,()))
    match q.fst with
    |some b=>pure b
    |none=>pure true:Sem Bool).run P w= .ok r w
 |[],r,h=>by simp[eqa]at h;subst h;simp
 |i::is,r,h=>by
  unfold eqa at h
  split at h
  ·rename_i a b ha hb
   split at h
   ·rename_i q s hq hs
    obtain rfl:=ia h
    have h1:=hE e a b q hq
    have h2:=qo9 w d E hE e sz xs ys is s hs
    simp only[List.forIn_cons,Sem.run_bind,qcH ha,qcH hb,Result.andThen_ok,h1]
    cases q
    ·simp
    ·simpa using h2
   ·cases h
  ·cases h
theorem qkJ {P:Program}(w:World):∀(d:Nat) (e:Nat) (t:TypeId) (x y:Value) (r:Bool),eqv P d t x y=some r->(Op.equalIn (d+e) t x y).run P w= .ok r w
 |0,_,_,_,_,_,h=>by simp[eqv]at h
 |d+1,e,t,x,y,r,h=>by
  rw[show d+1+e=d+e+1 by omega]
  unfold eqv at h
  split at h
  ·rename_i a b hu
   obtain rfl:=ia h
   exact run_equalIn_bool' w (d+e) t a b hu
  ·rename_i k0 k a k' b hu
   split at h
   ·rename_i hk
    subst hk
    obtain rfl:=ia h
    exact run_equalIn_int w (d+e) t k k0 a b hu
   ·cases h
  ·rename_i a b hu
   obtain rfl:=ia h
   exact run_equalIn_string w (d+e) t a b hu
  ·rename_i fs xs ys hu
   split at h
   ·cases h
   ·rename_i hp
    have hf:P.fieldsOf t=fs:=by simp[Program.fieldsOf,hu]
    rw[run_equalIn_struct w (d+e) t xs ys (by rw[hf];exact hu) (by simpa using hp),hf]
    exact qo8 w (d+e) (eqv P d) (fun t x y r h=>qkJ w d e t x y r h) xs ys fs.toList r h
  ·rename_i n el xs ys hu
   split at h
   ·rename_i sz hz
    have:=qo9 w (d+e) (eqv P d) (fun t x y r h=>qkJ w d e t x y r h) el sz xs ys (List.range n) r h
    rw[Sem.run_bind]at this
    simp only[Op.equalIn,Sem.run_bind,qL hu,Result.andThen_ok,qbr hz,Std.Legacy.Range.forIn_eq_forIn_range',Std.Legacy.Range.size,Nat.sub_zero,Nat.add_one_sub_one,Nat.div_one,<-List.range_eq_range']
    refine Eq.trans ?_ this
    congr 1
    funext a w'
    cases a.fst<;>rfl
   ·cases h
  ·cases h
def qjc (op:BinOp)(b:Bool):Option Value:=
 match op with
 | .eql=>some (.bool b)
 | .neq=>some (.bool (!b))
 |_=>none
def binv (P:Program)(alt:Bool)(op:BinOp)(t:TypeId)(x y:Value):Option (Value×List (World->Prop)):=
 match op,x,y with
 | .shl,.int k a,.int _ b=>some (.int k (k.wrap (a*2^min b.toNat k.bits)),[fun _=>0<=b])
 | .shr,.int k a,.int _ b=>some (.int k (a.fdiv (2^min b.toNat k.bits)),[fun _=>0<=b])
 |op,.int k a,.int k' b=>if k=k' then intv alt op k a b else none
 | .add,.string a,.string b=>some (.string (a++b),[fun _=>a.size+b.size<=9223372036854775807])
 | .eql,.string a,.string b=>some (.bool (a.toList==b.toList),[])
 | .neq,.string a,.string b=>some (.bool (!(a.toList==b.toList)),[])
 |op,.bool a,.bool b=>match P.underlying t with
  |some .bool=>(qjc op (a==b)).map fun v=>(v,[])
  |_=>none
 |op,.pointer a,.pointer none=>match P.underlying t with
  |some (.pointer _)=>(qjc op a.isNone).map fun v=>(v,[])
  |_=>none
 |op,.slice a _ _,.slice none _ _=>match P.underlying t with
  |some (.slice _)=>(qjc op a.isNone).map fun v=>(v,[])
  |_=>none
 |op,.agg xs,.agg ys=>if P.eqGuardType P.depth t then none else match eqv P 20 t (.agg xs) (.agg ys)with
  |some r=>(qjc op r).map fun v=>(v,[])
  |none=>none
 |_,_,_=>none
theorem binv_run {P:Program}{w:World}{alt:Bool}{op:BinOp}{t:TypeId}{x y v:Value}{X Y:Operand}{cs:List (World->Prop)}
  (h:binv P alt op t x y=some (v,cs)) (hc:qc6 cs w):(do eqGuard op t X Y x y;binOp op t x y:Sem Value).run P w= .ok v w:=by
 unfold binv at h;split at h
 ·rename_i k a k' b
  simp only[ij,ib]at h;obtain⟨rfl,rfl⟩:=h;have hb:¬b<0:=by have:=hc.1;omega
  simp[eqGuard,binOp,Op.shift,hb]
 ·rename_i k a k' b
  simp only[ij,ib]at h;obtain⟨rfl,rfl⟩:=h;have hb:¬b<0:=by have:=hc.1;omega
  simp[eqGuard,binOp,Op.shift,hb]
 ·rename_i k a k' b d f
  split at h
  ·rename_i hk
   subst hk;have hg:(eqGuard op t X Y (.int k a) (.int k b)).run P w= .ok () w:=by cases op<;>simp[eqGuard]
   simp only[Sem.run_bind,hg,Result.andThen_ok];exact intv_run h hc
  ·cases h
 ·rename_i a b
  simp only[ij,ib]at h;obtain⟨rfl,rfl⟩:=h;have hb:a.size+b.size<=9223372036854775807:=hc.1;have:¬(((a.size+b.size:Nat):Int)>IntKind.i64.max):=by simp[IntKind.max,IntKind.bits,IntKind.signed];omega
  simp only[eqGuard,binOp,Op.stringOp,if_neg this];rfl
 ·rename_i a b
  simp only[ij,ib]at h;obtain⟨rfl,rfl⟩:=h;simp[eqGuard,binOp,Op.stringOp]
 ·rename_i a b
  simp only[ij,ib]at h;obtain⟨rfl,rfl⟩:=h;simp[eqGuard,binOp,Op.stringOp]
 ·rename_i a b
  split at h
  ·rename_i hu
   cases op<;>simp[qjc]at h<;>obtain⟨rfl,rfl⟩:=h
   ·rw[Sem.run_bind,show(eqGuard .eql t X Y (.bool a) (.bool b)).run P w= .ok () w by simp[eqGuard]]
    exact run_eql_bool w t a b hu
   ·rw[Sem.run_bind,show(eqGuard .neq t X Y (.bool a) (.bool b)).run P w= .ok () w by simp[eqGuard]]
    exact run_neq_bool w t a b hu
  ·cases h
 ·rename_i a
  split at h
  ·rename_i e hu
   have hu':P.underlying t=some (.pointer (P.pointee t)):=by simp[Program.pointee,hu]
   cases op<;>simp[qjc]at h<;>obtain⟨rfl,rfl⟩:=h
   ·rw[Sem.run_bind,show(eqGuard .eql t X Y (.pointer a) (.pointer none)).run P w= .ok () w by simp[eqGuard]]
    exact run_eql_pointer_nil w t a hu'
   ·rw[Sem.run_bind,show(eqGuard .neq t X Y (.pointer a) (.pointer none)).run P w= .ok () w by simp[eqGuard]]
    have:=run_neq_pointer_nil w t a hu';simpa using this
  ·cases h
 ·rename_i a l c l' c'
  split at h
  ·rename_i e hu
   have hq:(Op.equal t (.slice a l c) (.slice none l' c')).run P w= .ok a.isNone w:=by
    unfold Op.equal Op.maxDepth;rw[show(10000:Nat)=9999+1 from rfl];unfold Op.equalIn;cases a<;>simp[qL hu]
   cases op<;>simp[qjc]at h<;>obtain⟨rfl,rfl⟩:=h
   ·simp[eqGuard,binOp,hq]
   ·simp[eqGuard,binOp,hq]
  ·cases h
 ·rename_i xs ys
  split at h
  ·cases h
  ·rename_i hm
   split at h
   ·rename_i r hr
    have hq:=qkJ w 20 9980 t (.agg xs) (.agg ys) r hr;have hg:=run_eqGuard_agg (P:=P) w op t X Y xs ys (by simpa using hm);simp only[Sem.run_bind,hg,Result.andThen_ok];cases op<;>simp[qjc]at h<;>obtain⟨rfl,rfl⟩:=h
    ·rw[run_eql_struct,hq];rfl
    ·rw[run_neq_struct,hq];rfl
   ·cases h
 ·cases h
def convv (P:Program)(alt:Bool)(s d:TypeId)(x:Value):Option (Value×List (World->Prop)):=
 match P.underlying s,P.underlying d,x with
 |some _,some (.int k),.int _ n=>if wide k !=alt then some (.int k n,[fun _=>InR k n])else some (.int k (k.wrap n),[])
 |some (.int _),some .string,.int _ n=>some (.string (Utf8.encode n),[])
 |some .string,some .string,.string s=>some (.string s,[])
 |_,_,_=>none
theorem qoa {P:Program}{w:World}{alt:Bool}{s d:TypeId}{x v:Value}{cs:List (World->Prop)}(h:convv P alt s d x=some (v,cs))(hc:qc6 cs w):
  (convert s d x).run P w= .ok v w:=by
 unfold convv at h;split at h
 ·rename_i u k k' n hs hd
  split at h<;>simp only[ij,ib]at h<;>obtain⟨rfl,rfl⟩:=h
  ·simp[convert,qL hs,qL hd,Conv.intToInt,qbm hc.1]
  ·simp[convert,qL hs,qL hd,Conv.intToInt]
 ·rename_i k k' n hs hd
  simp only[ij,ib]at h;obtain⟨rfl,rfl⟩:=h;simp[convert,qL hs,qL hd,Conv.intToString]
 ·rename_i s hs hd
  simp only[ij,ib]at h;obtain⟨rfl,rfl⟩:=h;simp[convert,qL hs,qL hd]
 ·cases h
def unv (alt:Bool)(op:UnOp)(x:Value):Option (Value×List (World->Prop)):=
 match op,x with
 | .not,.bool b=>some (.bool (!b),[])
 | .neg,.int k n=>some (qj9 (wide k !=alt) k (0-n))
 | .xor,.int k n=>some (.int k (qe .xor k (if k.signed then-1 else k.max) n),[])
 |_,_=>none
theorem unv_run {P:Program}{w:World}{alt:Bool}{op:UnOp}{x v:Value}{cs:List (World->Prop)}(h:unv alt op x=some (v,cs))(hc:qc6 cs w):(Op.unary op x).run P w= .ok v w:=by
 unfold unv at h;split at h
 ·simp only[ij,ib]at h
  obtain⟨rfl,rfl⟩:=h;simp[Op.unary]
 ·unfold qj9 at h
  split at h<;>simp only[ij,ib]at h<;>obtain⟨rfl,rfl⟩:=h
  ·have:=qbm hc.1
   simp only[Int.zero_sub]at this;simp[Op.unary,Op.intArith,this]
  ·simp[Op.unary,Op.intArith]
 ·simp only[ij,ib]at h
  obtain⟨rfl,rfl⟩:=h;simp only[Op.unary,Op.intBits,qe];rfl
 ·cases h
def qob (P:Program)(b:Builtin)(ts:List TypeId)(xs:List Value):Option Value:=
 match b,ts,xs with
 | .len,[t],[x]=>match P.underlying t,x with
  |some .string,.string s=>some (.int .i64 s.size)
  |some (.slice _),.slice _ n _=>some (.int .i64 n)
  |some (.array n _),_=>some (.int .i64 n)
  |_,_=>none
 | .min,_,[.int k a,.int _ b]=>some (.int k (min a b))
 | .max,_,[.int k a,.int _ b]=>some (.int k (max a b))
 |_,_,_=>none
theorem qmR {P:Program}{w:World}{b:Builtin}{ts:Array TypeId}{xs:Array Value}{ty:TypeId}{consts:Array Bool}{v:Value}(h:qob P b ts.toList xs.toList=some v):
  (builtin b ts ty consts xs).run P w= .ok (.value v) w:=by
 obtain⟨ts⟩:=ts;obtain⟨xs⟩:=xs;simp only at h;unfold qob at h;split at h
 ·rename_i t x
  split at h
  ·rename_i s hu
   obtain rfl:=ia h;simp[builtin,Builtin.len_,qL hu,goInt]
  ·rename_i e a n c hu
   obtain rfl:=ia h;simp[builtin,Builtin.len_,qL hu,goInt]
  ·rename_i n e hu
   obtain rfl:=ia h;simp[builtin,Builtin.len_,qL hu,goInt]
  ·cases h
 ·rename_i k a k' b
  obtain rfl:=ia h;have e:(if b<a then b else a)=min a b:=by omega
  simp[builtin,run_min_int2,e]
 ·rename_i k a k' b
  obtain rfl:=ia h;have e:(if a<b then b else a)=max a b:=by omega
  simp[builtin,run_max_int2,e]
 ·cases h
def evs (f:Fr):List Operand->Option (List Value)
 |[]=>some []
 |x::xs=>match ev f x,evs f xs with
  |some v,some vs=>some (v::vs)
  |_,_=>none
theorem qlz {N:Nat}{f:Fr}{a:Act}(h:Has N f a):∀{xs:List Operand} {vs:List Value},evs f xs=some vs->xs.map a.eval=vs
 |[],vs,e=>by simp[evs]at e;subst e;rfl
 |x::xs,vs,e=>by
  unfold evs at e
  split at e
  ·rename_i v us hv hu
   obtain rfl:=ia e
   simp[qC h hv,qlz h hu]
  ·cases e
theorem qbO {N:Nat}{f:Fr}{a:Act}(h:Has N f a){xs:Array Operand}{vs:List Value}(e:evs f xs.toList=some vs):xs.map a.eval=vs.toArray:=by
 apply js.1;simpa using qlz h e
def evp (f:Fr):List (Nat×Operand)->Option (List (Nat×Value))
 |[]=>some []
 |(i,x)::xs=>match ev f x,evp f xs with
  |some v,some vs=>some ((i,v)::vs)
  |_,_=>none
theorem qic {N:Nat}{f:Fr}{a:Act}(h:Has N f a):∀{xs:List (Nat×Operand)} {vs:List (Nat×Value)},evp f xs=some vs->(xs.map fun(i,x)=>(i,a.eval x))=vs
 |[],vs,e=>by simp[evp]at e;subst e;rfl
 |(i,x)::xs,vs,e=>by
  unfold evp at e
  split at e
  ·rename_i v us hv hu
   obtain rfl:=ia e
   have:=qic h hu
   simp[qC h hv,this]
  ·cases e
def qid (P:Program)(t:TypeId)(x:Value)(h m:Int):Option (Value×List (World->Prop)):=
 match P.underlying t,x with
 |some (.slice e),.slice a _ cap=>match qfj P e with
  |some _=>some (.slice a h.toNat m.toNat,[fun _=>0<=m/\m<=(cap:Nat),fun _=>0<=h/\h<=(m.toNat:Nat)])
  |none=>none
 |_,_=>none
theorem qjd {P:Program}{w:World}{t:TypeId}{x v:Value}{h m:Int}{k k':IntKind}{cs:List (World->Prop)}(hs:qid P t x h m=some (v,cs))(hc:qc6 cs w):
  (Instr.sliceAt t x none (some (.int k h)) (some (.int k' m))).run P w= .ok v w:=by
 unfold qid at hs;split at hs
 ·rename_i e a g i hu
  split at hs
  ·rename_i sz b
   simp only[ij,ib]at hs;obtain⟨rfl,rfl⟩:=hs;have c:=hc.1;have d:=hc.2.1;simp only[Instr.sliceAt,qL hu,Sem.run_bind,Result.andThen_ok,Instr.slice,Instr.sliceBounds,qfk c,qfk d,qbr b,Sem.run_pure,km,Nat.sub_zero];congr 2;split
   ·rfl
   ·have f:(fun x:Addr=>x.add 0)=id:=by funext x;simp[Addr.add]
    rw[f,Option.map_id];rfl
  ·cases hs
 ·cases hs
def opv (P:Program)(f:Fr)(alt:Bool)(lv:List Value)(o:Op):Option Ans:=
 match o with
 | .move x=>(ev f x).map fun v=>(v,[],lv)
 | .assign x=>(ev f x).map fun v=>(v,[],lv)
 | .pick c x y=>match ev f c with
  |some (.bool true)=>(ev f x).map fun v=>(v,[],lv)
  |some (.bool false)=>(ev f y).map fun v=>(v,[],lv)
  |_=>none
 | .nilCheck x=>match ev f x with
  |some (.pointer (some a))=>some (.pointer (some a),[],lv)
  |_=>none
 | .load t x=>match ev f x,lv with
  |some (.pointer (some ⟨b,o,none⟩)),v::lv'=>(loadC P t b o v).map fun cs=>(v,cs,lv')
  |_,_=>none
 | .fieldAddr s x i=>match ev f x with
  |some v=>(qo5 P s v i).map fun v=>(v,[],lv)
  |none=>none
 | .field t x i=>match ev f x with
  |some v=>(qkH P t v i).map fun v=>(v,[],lv)
  |none=>none
 | .indexAddr t x i=>match ev f x,ev f i with
  |some v,some u=>(qo4 P t v u).map fun r=>(r.1,r.2,lv)
  |_,_=>none
 | .index t x i=>match ev f x,ev f i with
  |some v,some u=>(strIx P t v u).map fun r=>(r.1,r.2,lv)
  |_,_=>none
 | .slice t x lo hi none=>match ev f x,bnd f lo,bnd f hi with
  |some v,some l,some h=>(qo3 P alt t v l h).map fun r=>(r.1,r.2,lv)
  |_,_,_=>none
 | .slice t x none (some h) (some m)=>match ev f x,bnd f (some h),bnd f (some m)with
  |some v,some (some i),some (some j)=>(qid P t v i j).map fun r=>(r.1,r.2,lv)
  |_,_,_=>none
 | .extract x i=>match ev f x with
  |some (.tuple vs)=>(vs[i]?).map fun v=>(v,[],lv)
  |_=>none
 | .binOp op t x y _=>match ev f x,ev f y with
  |some v,some u=>(binv P alt op t v u).map fun r=>(r.1,r.2,lv)
  |_,_=>none
 | .unOp op _ x=>match ev f x with
  |some v=>(unv alt op v).map fun r=>(r.1,r.2,lv)
  |none=>none
 | .convert s d x=>match ev f x with
  |some v=>(convv P alt s d v).map fun r=>(r.1,r.2,lv)
  |none=>none
 | .build t parts=>match evp f parts.toList with
  |some ps=>(qo7 P t ps).map fun v=>(v,[],lv)
  |none=>none
 | .call {callee:= .builtin b,args,argTypes}=>match evs f args.toList with
  |some vs=>(qob P b argTypes.toList vs).map fun v=>(v,[],lv)
  |none=>none
 |_=>none
theorem qlA {N:Nat}{f:Fr}{a:Act}(h:Has N f a){x:Option Operand}{i:Option Int}(e:bnd f x=some i):qmM (x.map a.eval) i:=by
 cases x with
 |none=>simp[bnd]at e;subst e;rfl
 |some x=>
  simp only[bnd]at e;split at e
  ·rename_i k j hj
   obtain rfl:=ia e;exact⟨k,by simp[qC h hj]⟩
  ·cases e
theorem opv_run {P:Program}{N:Nat}{f:Fr}{alt:Bool}{lv lv':List Value}{o:Oper}{v:Value}{cs:List (World->Prop)}{a:Act}{w:World}
  (h:opv P f alt lv o.op=some (v,cs,lv')) (ha:Has N f a) (hc:qc6 cs w):(execOp a.eval o).run P w= .ok (.value v) w:=by
 obtain⟨E,op,A,F,G,H⟩:=o;simp only at h;cases op
 case move x=>
  simp only[opv,iB,ib]at h;obtain⟨u,hu,rfl,_,_⟩:=h;simp[execOp,qC ha hu]
 case assign x=>
  simp only[opv,iB,ib]at h;obtain⟨u,hu,rfl,_,_⟩:=h;simp[execOp,qC ha hu]
 case pick c x y=>
  simp only[opv]at h;split at h
  ·rename_i hb
   simp only[iB,ib]at h;obtain⟨u,hu,rfl,_,_⟩:=h;simp[execOp,qC ha hu,qC ha hb,asBool]
  ·rename_i hb
   simp only[iB,ib]at h;obtain⟨u,hu,rfl,_,_⟩:=h;simp[execOp,qC ha hu,qC ha hb,asBool]
  ·cases h
 case nilCheck x=>
  simp only[opv]at h;split at h
  ·rename_i b hb
   simp only[ij,ib]at h;obtain⟨rfl,_,_⟩:=h;simp[execOp,qC ha hb]
  ·cases h
 case load t x=>
  simp only[opv]at h;split at h
  ·rename_i b o u l hb
   simp only[iB,ib]at h;obtain⟨I,hl,rfl,rfl,_⟩:=h;simp[execOp,qC ha hb,Instr.loadAt,Instr.sureAddr,qja hl hc]
  ·cases h
 case fieldAddr s x i=>
  simp only[opv]at h;split at h
  ·rename_i u hb
   simp only[iB,ib]at h;obtain⟨r,hr,rfl,rfl,_⟩:=h;simp[execOp,qC ha hb,qmP hr]
  ·cases h
 case field t x i=>
  simp only[opv]at h;split at h
  ·rename_i u hb
   simp only[iB,ib]at h;obtain⟨r,hr,rfl,rfl,_⟩:=h;simp[execOp,qC ha hb,qkI hr]
  ·cases h
 case indexAddr t x i=>
  simp only[opv]at h;split at h
  ·rename_i u q hb hq
   simp only[iB,ib]at h;obtain⟨⟨g,n⟩,hr,rfl,rfl,_⟩:=h;simp[execOp,qC ha hb,qC ha hq,qmO hr hc]
  ·cases h
 case index t x i=>
  simp only[opv]at h;split at h
  ·rename_i u q hb hq
   simp only[iB,ib]at h;obtain⟨⟨g,n⟩,hr,rfl,rfl,_⟩:=h;simp[execOp,qC ha hb,qC ha hq,qo6 hr hc]
  ·cases h
 case slice t x lo hi mx=>
  cases mx with
  |some m=>
   cases lo with
   |some l=>simp[opv]at h
   |none=>
    cases hi with
    |none=>simp[opv]at h
    |some hh=>
     simp only[opv]at h;split at h
     ·rename_i u i j hb hl hq
      simp only[iB,ib]at h;obtain⟨⟨g,n⟩,hr,rfl,rfl,_⟩:=h;obtain⟨p,B⟩:=qlA ha hl;obtain⟨z,C⟩:=qlA ha hq;have e1':a.eval hh= .int p i:=by simpa using B
      have e2':a.eval m= .int z j:=by simpa using C
      have:=qjd (k:=p) (k':=z) hr hc;simp[execOp,qC ha hb,e1',e2',this]
     ·cases h
  |none=>
   simp only[opv]at h;split at h
   ·rename_i u l q hb hl hq
    simp only[iB,ib]at h;obtain⟨⟨g,n⟩,hr,rfl,rfl,_⟩:=h;have:=qmN hr (qlA ha hl) (qlA ha hq) hc;simp[execOp,qC ha hb,this]
   ·cases h
 case extract x i=>
  simp only[opv]at h;split at h
  ·rename_i vs hb
   simp only[iB,ib]at h;obtain⟨r,hr,rfl,rfl,_⟩:=h;simp[execOp,qC ha hb,Instr.extract,hr]
  ·cases h
 case binOp op t x y yt=>
  simp only[opv]at h;split at h
  ·rename_i u q hb hq
   simp only[iB,ib]at h;obtain⟨⟨g,n⟩,hr,rfl,rfl,_⟩:=h;simp only[execOp,qC ha hb,qC ha hq];rw[Sem.run_bind,binv_run hr hc];rfl
  ·cases h
 case unOp op t x=>
  simp only[opv]at h;split at h
  ·rename_i u hb
   simp only[iB,ib]at h;obtain⟨⟨g,n⟩,hr,rfl,rfl,_⟩:=h;simp[execOp,qC ha hb,unv_run hr hc]
  ·cases h
 case convert s d x=>
  simp only[opv]at h;split at h
  ·rename_i u hb
   simp only[iB,ib]at h;obtain⟨⟨g,n⟩,hr,rfl,rfl,_⟩:=h;simp[execOp,qC ha hb,qoa hr hc]
  ·cases h
 case build t parts=>
  simp only[opv]at h;split at h
  ·rename_i ps hp
   simp only[iB,ib]at h;obtain⟨r,hr,rfl,rfl,_⟩:=h;have e:(parts.map fun(i,x)=>(i,a.eval x))=ps.toArray:=by
    apply js.1;simpa using qic ha hp
   have:=qmQ (P:=P) (w:=w) (t:=t) (parts:=ps.toArray) (v:=r) (by simpa using hr);simp only[execOp];rw[e];simp[this]
  ·cases h
 case call c=>
  obtain⟨D,J,ts⟩:=c;cases D with
  |value f=>simp[opv]at h
  |invoke r m=>simp[opv]at h
  |builtin b=>
   simp only[opv]at h;split at h
   ·rename_i vs hv
    simp only[iB,ib]at h;obtain⟨r,hr,rfl,rfl,_⟩:=h;have e:=qbO ha hv;have:=fun consts=>qmR (P:=P) (w:=w) (b:=b) (ts:=ts) (xs:=vs.toArray) (ty:=A) (consts:=consts) (v:=r) (by simpa using hr);simp only[execOp,resolve,e,Sem.run_bind,Sem.run_pure,Result.andThen_ok,invoke];exact this _
   ·cases h
 all_goals simp[opv]at h
end Go.Proofs.YtjjcnhgpccancaaGreatDoor.X
namespace Go.Proofs.YtjjcnhgpccancaaGreatDoor.X
open Go
def wantR (f:Fr)(ops:Array Oper)(o:Oper):Option Bool:=
 match o.guard with
 |none=>some true
 |some (j,want)=>match(ops[j]?).bind (·.dst)with
  |some d=>match get f d with
   |some (.bool b)=>some (b==want)
   |some (.tuple _)=>some false
   |_=>none
  |none=>none
theorem qie {N:Nat}{f:Fr}{ops:Array Oper}{o:Oper}{r:Bool}{a:Act}(h:wantR f ops o=some r)(ha:Has N f a):Region.wanted o (yielded ops a.tmps)=r:=by
 unfold wantR at h;unfold Region.wanted;cases hg:o.guard with
 |none=>rw[hg]at h;simpa using h
 |some jw=>
  obtain⟨j,i⟩:=jw;rw[hg]at h;simp only at h⊢;unfold yielded;cases hd:(ops[j]?).bind (·.dst)with
  |none=>rw[hd]at h;cases h
  |some d=>
   rw[hd]at h;simp only at h;split at h
   ·rename_i b hb
    obtain rfl:=ia h;have c:=ha.get d _ hb;have g:a.tmps[d]? =some (.bool b):=by
     rw[jS]at c;cases hx:a.tmps[d]? with
     |none=>rw[hx]at c;simp[undef]at c
     |some u=>rw[hx]at c;simpa using c
    simp[g]
   ·rename_i xs hb
    obtain rfl:=ia h;have c:=ha.get d _ hb;have g:∀b,a.tmps[d]? ≠some (.bool b):=by
     intro b e;rw[jS,e]at c;simp at c
    cases hx:a.tmps[d]? with
    |none=>simp[hx]
    |some u=>cases u<;>simp_all
   ·cases h
def pushd (d:Option Tmp)(v:Value)(f:Fr):Fr:=
 match d with
 |some d=>(d,v)::f
 |none=>f
def qoc (N:Nat)(d:Option Tmp):Bool:=
 match d with
 |some d=>decide (d<N)
 |none=>true
theorem Has.pushd {N:Nat}{f:Fr}{a:Act}(h:Has N f a){d:Option Tmp}(hd:qoc N d=true)(v:Value):Has N (pushd d v f) (a.put d v):=by
 cases d with
 |none=>exact h
 |some d=>exact h.put d (by simpa[qoc]using hd) v
def stepv (P:Program)(N:Nat)(ops:Array Oper)(alt:List Nat)(f:Fr)(lv:List Value)(i:Nat):Option (Fr×List (World->Prop)×List Value):=
 match ops[i]? with
 |some o=>if qoc N o.dst then
   match wantR f ops o with
   |some true=>match opv P f (alt.contains i) lv o.op with
    |some (v,cs,lv')=>some (pushd o.dst v f,cs,lv')
    |none=>none
   |some false=>some (pushd o.dst undef f,[],lv)
   |none=>none
  else none
 |none=>none
theorem qdl {P:Program}{N:Nat}{ops:Array Oper}{alt:List Nat}{f f':Fr}{lv lv':List Value}{i:Nat}{cs:List (World->Prop)}{a:Act}{S:World->Prop}
  (h:stepv P N ops alt f lv i=some (f',cs,lv')) (ha:Has N f a) (hc:∀w,S w->qc6 cs w):
  ∃o v,ops[i]? =some o/\YieldsIf P ops S o v a/\Has N f' (a.put o.dst v):=by
 unfold stepv at h;cases ho:ops[i]? with
 |none=>rw[ho]at h;cases h
 |some o=>
  rw[ho]at h;simp only at h;split at h
  ·rename_i hd
   split at h
   ·rename_i hw
    split at h
    ·rename_i v b c hv
     simp only[ij,ib]at h;obtain⟨rfl,rfl,rfl⟩:=h;exact⟨o,v,rfl,.inl ⟨qie hw ha,fun w hS=>opv_run hv ha (hc w hS)⟩,ha.pushd hd v⟩
    ·cases h
   ·rename_i hw
    simp only[ij,ib]at h;obtain⟨rfl,rfl,rfl⟩:=h;exact⟨o,undef,rfl,.inr ⟨qie hw ha,rfl⟩,ha.pushd hd undef⟩
   ·cases h
  ·cases h
def qod (P:Program)(N:Nat)(ops:Array Oper)(alt:List Nat):List Nat->Fr->List Value->Option (Fr×List (World->Prop))
 |[],f,lv=>match lv with
  |[]=>some (f,[])
  |_=>none
 |i::is,f,lv=>match stepv P N ops alt f lv i with
  |some (f',cs,lv')=>match qod P N ops alt is f' lv' with
   |some (f'',cs')=>some (f'',cs++cs')
   |none=>none
  |none=>none
theorem qkK {P:Program}{N:Nat}{ops:Array Oper}{alt:List Nat}{Q:Exit->Act->World->Prop}{rest:List Nat}{w:World}:∀(is:List Nat) {f f':Fr} {lv:List Value} {cs:List (World->Prop)} {a:Act},
  qod P N ops alt is f lv=some (f',cs)->Has N f a->qc6 cs w->(∀a',Has N f' a'->wpOps P ops Q rest a' w)->wpOps P ops Q (is++rest) a w
 |[],f,f',lv,cs,a,h,ha,hc,hr=>by
  unfold qod at h
  split at h
  ·simp only[ij,ib]at h
   obtain⟨rfl,rfl⟩:=h
   exact hr a ha
  ·cases h
 |i::is,f,f',lv,cs,a,h,ha,hc,hr=>by
  unfold qod at h
  split at h
  ·rename_i f1 cs1 lv1 hs
   split at h
   ·rename_i f2 cs2 hr2
    simp only[ij,ib]at h
    obtain⟨rfl,rfl⟩:=h
    rw[AllC_append]at hc
    obtain⟨o,v,ho,hy,ha'⟩:=qdl (S:=fun w'=>w'=w) hs ha (fun w' hw=>by subst hw;exact hc.1)
    rw[List.cons_append,wpOps_cons]
    exact hy.wpOp ho rfl (qkK is hr2 ha' hc.2 hr)
   ·cases h
  ·cases h
def WS (P:Program)(N:Nat)(ops:Array Oper)(Q:Exit->Act->World->Prop)(k:Nat)(f:Fr)(w:World):Prop:=
 ∀a,Has N f a->wpOps P ops Q (List.range' k (ops.size-k)) a w
def segv (P:Program)(N:Nat)(ops:Array Oper)(alt:List Nat)(k k':Nat)(ks:List Nat)(f:Fr)(lv:List Value):Option (Fr×List (World->Prop)):=
 if k<=k'/\k'<=ops.size then
  match qod P N ops alt (List.range' k (k'-k)) f lv with
  |some (f',cs)=>some (keep ks f',cs)
  |none=>none
 else none
theorem x_pure {P:Program}{N:Nat}{ops:Array Oper}{Q:Exit->Act->World->Prop}{w:World}{f f':Fr}{cs:List (World->Prop)}{k:Nat}(k':Nat)(alt ks:List Nat)(lv:List Value)
  (h:segv P N ops alt k k' ks f lv=some (f',cs)) (hc:qc6 cs w) (hn:WS P N ops Q k' f' w):WS P N ops Q k f w:=by
 intro a ha;unfold segv at h;split at h
 ·rename_i hk
  split at h
  ·rename_i f1 c hr
   simp only[ij,ib]at h;obtain⟨rfl,rfl⟩:=h;have e:List.range' k (ops.size-k)=List.range' k (k'-k)++List.range' k' (ops.size-k'):=by
    have:=List.range'_append_1 (s:=k) (m:=k'-k) (n:=ops.size-k');rw[show k+(k'-k)=k' by omega,show k'-k+(ops.size-k')=ops.size-k by omega]at this;exact this.symm
   rw[e];exact qkK _ hr ha hc fun a' b=>hn a' (b.keep ks)
  ·cases h
 ·cases h
theorem x_end {P:Program}{N:Nat}{ops:Array Oper}{Q:Exit->Act->World->Prop}{w:World}{f:Fr}{k:Nat}(hk:ops.size=k)(h:∀a,Has N f a->Q .normal a w):WS P N ops Q k f w:=by
 intro a ha;rw[show ops.size-k=0 by omega];exact h a ha
theorem x_eff {P:Program}{N:Nat}{ops:Array Oper}{Q:Exit->Act->World->Prop}{w:World}{f:Fr}{k:Nat}(k':Nat)(hk:k'=k+1/\k<ops.size)
  (h:∀a,Has N f a->wpOp P ops Q k (fun a' w'=>wpOps P ops Q (List.range' k' (ops.size-k')) a' w') a w):WS P N ops Q k f w:=by
 intro a ha;obtain⟨rfl,hk⟩:=hk;rw[show ops.size-k=(ops.size-(k+1))+1 by omega,List.range'_succ,wpOps_cons];exact h a ha
def qaD (P:Program)(ops:Array Oper)(Q:Exit->Act->World->Prop)(kill:List Nat):(World->Prop)->Nat->Array Bool->Act->World->Prop
 |_,0,listed,a,w=>Region.ready .any ops listed=[]/\Q .normal a w
 |F,fuel+1,listed,a,w=>
  (Region.ready .any ops listed=[]->Q .normal a w)/\
  ∀i∈Region.ready .any ops listed,wpOp P ops Q i (fun a' w'=>
   if kill.contains i then∃G:World->Prop,G w'/\qaD P ops Q kill G fuel (listed.setIfInBounds i true) a' w'
   else∃G:World->Prop,(∀u,G u->F u)/\G w'/\qaD P ops Q kill G fuel (listed.setIfInBounds i true) a' w') a w
theorem qcb {P:Program}{ops:Array Oper}{Q:Exit->Act->World->Prop}{kill:List Nat}:∀(fuel:Nat) (F:World->Prop) (listed:Array Bool) (a:Act) (w:World),
  qaD P ops Q kill F fuel listed a w->wpAny P .any ops Q fuel listed a w
 |0,_,_,_,_,h=>h
 |fuel+1,F,_,_,_,h=>⟨h.1,fun i hi=>wpOp_mono (fun a' w' h'=>by
   split at h'
   ·obtain⟨G,_,h'⟩:=h'
    exact qcb fuel _ _ a' w' h'
   ·obtain⟨G,_,_,h'⟩:=h'
    exact qcb fuel _ _ a' w' h') (h.2 i hi)⟩
def qje (ops:Array Oper)(j i:Nat):Bool:=
 match ops[j]? with
 |some oj=>oj.after.any fun e=>Region.binds .any e&&e.on==i
 |none=>false
theorem qdN {ops:Array Oper}{j i:Nat}(h:qje ops j i=true):∃oj,ops[j]? =some oj/\ ∃e∈oj.after,Region.binds .any e=true/\e.on=i:=by
 unfold qje at h;split at h
 ·rename_i oj hj
  obtain⟨e,he,hb⟩:=Array.any_eq_true'.1 h;simp only[ii,iU]at hb;exact⟨oj,hj,e,he,hb.1,hb.2⟩
 ·cases h
theorem qoe {ops:Array Oper}{listed:Array Bool}{i j:Nat}(hi:i∈Region.ready .any ops listed)(hw:qje ops j i=true):¬j∈Region.ready .any ops listed:=by
 intro hj;obtain⟨oj,d,e,he,hb,f⟩:=qdN hw;obtain⟨_,h,b,g⟩:=mem_ready.1 hj;rw[d]at b;obtain rfl:=ia b;have a:=g e he hb;have c:=(mem_ready.1 hi).1;rw[f]at a;rcases iL i listed.size with h'|h'
 ·simp[h']at c a;rw[c]at a;cases a
 ·simp[jk h']at a
inductive Waits (ops:Array Oper) (i:Nat):Nat->Prop
 |one {j:Nat}:qje ops j i=true->Waits ops i j
 |more {j k:Nat}:qje ops j k=true->Waits ops i k->Waits ops i j
def stepW (ops:Array Oper)(i:Nat)(acc:List Nat)(j:Nat):List Nat:=
 match ops[j]? with
 |some oj=>if oj.after.any fun e=>Region.binds .any e&&(e.on==i||acc.contains e.on)then j::acc else acc
 |none=>acc
def reach (ops:Array Oper)(i:Nat):List Nat:=(List.range ops.size).foldl (stepW ops i) []
theorem qmS {ops:Array Oper}{i j:Nat}{acc:List Nat}(h:∀x∈acc,Waits ops i x):∀x∈stepW ops i acc j,Waits ops i x:=by
 unfold stepW;split
 ·rename_i oj hj
  split
  ·rename_i hb
   intro x hx;rcases j9.1 hx with rfl|hx
   ·obtain⟨e,he,hb⟩:=Array.any_eq_true'.1 hb
    simp only[ii,jx,iU]at hb;have hw:qje ops x e.on=true:=by
     unfold qje;rw[hj];exact Array.any_eq_true'.2 ⟨e,he,by simp[hb.1]⟩
    rcases hb.2 with a|a
    ·exact .one (a▸hw)
    ·exact .more hw (h _ (by simpa using a))
   ·exact h x hx
  ·exact h
 ·exact h
theorem qmT {ops:Array Oper}{i:Nat}:∀x∈reach ops i,Waits ops i x:=by
 have b:∀(l a:List Nat),(∀x∈a,Waits ops i x)-> ∀x∈l.foldl (stepW ops i) a,Waits ops i x:=by
  intro l
  induction l with
  |nil=>exact fun _ h=>h
  |cons j l ih=>exact fun a h=>ih _ (qmS h)
 exact b _ [] (fun x hx=>by cases hx)
def Closed (ops:Array Oper)(listed:Array Bool):Prop:= ∀j k,listed.getD j false=true->qje ops j k=true->listed.getD k false=true
def qof (ops:Array Oper)(listed:Array Bool):Bool:=(List.range ops.size).all fun j=> !(listed.getD j false)||match ops[j]? with
 |some oj=>oj.after.all fun e=> !(Region.binds .any e)||listed.getD e.on false
 |none=>true
theorem qjf {ops:Array Oper}{listed:Array Bool}(h:qof ops listed=true):Closed ops listed:=by
 intro j k hj hw;obtain⟨oj,a,e,he,hb,rfl⟩:=qdN hw;have c:j<ops.size:=(ku.1 a).1;have b:=j3.1 h j (jz.2 c);simp only[a,hj,Bool.not_true,Bool.false_or]at b;have d:=Array.all_eq_true'.1 b e he;simpa[hb]using d
theorem Closed.set {ops:Array Oper}{listed:Array Bool}{j:Nat}(h:Closed ops listed)(hj:j∈Region.ready .any ops listed):Closed ops (listed.setIfInBounds j true):=by
 have a:∀k,listed.getD k false=true->(listed.setIfInBounds j true).getD k false=true:=fun k hk=>by
  have c:k<listed.size:=by
   rcases iL k listed.size with h'|h'
   ·exact h'
   ·simp[jk h']at hk
  by_cases e:j=k
  ·subst e;simp[c]
  ·rwa[getD_set_ne false e]
 intro x k hx hw;by_cases e:j=x
 ·subst e
  obtain⟨oj,d,ed,he,hb,rfl⟩:=qdN hw;obtain⟨_,g,b,f⟩:=mem_ready.1 hj;rw[d]at b;obtain rfl:=ia b;refine a _ ?_;have:=f ed he hb;rcases iL ed.on listed.size with h'|h'
  ·simpa[h']using this
  ·simp[jk h']at this
 ·rw[getD_set_ne false e]at hx
  exact a k (h x k hx hw)
theorem qmU {ops:Array Oper}{listed:Array Bool}{i j:Nat}(hc:Closed ops listed)(hi:i∈Region.ready .any ops listed)(hw:Waits ops i j):¬listed.getD j false=true/\ ¬j∈Region.ready .any ops listed:=by
 have d:¬listed.getD i false=true:=by
  have b:=(mem_ready.1 hi).1;intro a;rcases iL i listed.size with h'|h'
  ·simp[h']at b a;rw[b]at a;cases a
  ·simp[jk h']at a
 induction hw with
 |one h=>exact⟨fun hl=>d (hc _ _ hl h),qoe hi h⟩
 |more h _ ih=>
  refine⟨fun hl=>ih.1 (hc _ _ hl h),fun hj=>?_⟩;obtain⟨oj,e,ed,he,hb,rfl⟩:=qdN h;obtain⟨_,g,c,f⟩:=mem_ready.1 hj;rw[e]at c;obtain rfl:=ia c;refine ih.1 ?_;have:=f ed he hb;rcases iL ed.on listed.size with h'|h'
  ·simpa[h']using this
  ·simp[jk h']at this
theorem YieldsIf.weaken {P:Program}{ops:Array Oper}{S T:World->Prop}{o:Oper}{v:Value}{a:Act}(h:YieldsIf P ops S o v a)(hT:∀w,T w->S w):YieldsIf P ops T o v a:=
 h.imp (fun⟨h1,h2⟩=>⟨h1,fun w hw=>h2 w (hT w hw)⟩) id
theorem qjg {P:Program}{ops:Array Oper}{Q:Exit->Act->World->Prop}{kill:List Nat}{i:Nat}{oi:Oper}{v:Value}(hi:ops[i]? =some oi)
  (hsel:∀(j:Nat) (o:Oper) cs b,ops[j]? =some o->o.op≠ .select cs b) (hQ:∀c a a' w,Q (.panic c) a w->Q (.panic c) a' w):
  ∀(fuel:Nat) (listed:Array Bool) (F:World->Prop) (a:Act) (w:World),
   (∀j oj,ops[j]? =some oj->j≠i->listed.getD j true=false->(∀e∈oj.after,Region.binds .any e=true->e.on≠i)->oi.apart ops oj=true)->
   i∈Region.ready .any ops listed->YieldsIf P ops F oi v a->F w->(YieldsIf P ops (fun _=>True) oi v a\/ ∀k∈kill,listed.getD k false=true\/Waits ops i k)->Closed ops listed->
   qaD P ops Q kill F fuel (listed.setIfInBounds i true) (a.put oi.dst v) w->qaD P ops Q kill F (fuel+1) listed a w:=by
 intro fuel
 induction fuel with
 |zero=>
  intro listed F a w _ hr hy hF _ _ H;refine⟨fun h=>(by rw[h]at hr;cases hr),fun j hj=>?_⟩;by_cases hji:j=i
  ·subst hji;exact hy.wpOp hi hF (by split<;>first|exact⟨F,hF,H⟩|exact⟨F,fun _ h=>h,hF,H⟩)
  ·have:=ready_mono hj hji
   rw[H.1]at this;cases this
 |succ fuel ih=>
  intro listed F a w t hr hy hF hk p H;refine⟨fun h=>(by rw[h]at hr;cases hr),fun j hj=>?_⟩;by_cases hji:j=i
  ·subst hji;exact hy.wpOp hi hF (by split<;>first|exact⟨F,hF,H⟩|exact⟨F,fun _ h=>h,hF,H⟩)
  ·have l:=H.2 j (ready_mono hj hji)
   obtain⟨u,oj,m,B⟩:=mem_ready.1 hj;have C:∀e∈oj.after,Region.binds .any e=true->e.on≠i:=fun e he hb D=>by
    have l:=B e he hb;have n:=(mem_ready.1 hr).1;rw[D]at l;rcases iL i listed.size with h'|h'
    ·simp[h']at n l;rw[n]at l;cases l
    ·simp[jk h']at l
   have hfree':∀k ok,ops[k]? =some ok->k≠i->(listed.setIfInBounds j true).getD k true=false->
     (∀e∈ok.after,Region.binds .any e=true->e.on≠i)->oi.apart ops ok=true:=fun k ok hk E x I=>by
    refine t k ok hk E ?_ I;by_cases d:j=k
    ·subst d;exact u
    ·rw[getD_set_ne true d]at x;exact x
   have y:=t j oj m hji u C;have z:∀c a w,Q (.panic c) (a.put oi.dst v) w->Q (.panic c) a w:=fun c a w h=>hQ c _ a w h;have r:=ready_mono hr (Ne.symm hji);rcases hk with hT|A
   ·have s:=wpOp_putIf m y (fun cs b=>hsel i oi cs b hi) (fun cs b=>hsel j oj cs b m) z hT l
    refine wpOp_mono (fun a' w' g=>?_) s;obtain⟨g,f⟩:=g;split
    ·rename_i d
     rw[if_pos d,kA _ _ (Ne.symm hji)]at f;obtain⟨G,hG,f⟩:=f;exact⟨G,hG,ih _ _ a' w' hfree' r (YieldsIf.weaken g fun _ _=>trivial) hG (.inl g) (p.set hj) f⟩
    ·rename_i d
     rw[if_neg d,kA _ _ (Ne.symm hji)]at f;obtain⟨G,q,hG,f⟩:=f;exact⟨G,q,hG,ih _ _ a' w' hfree' r (YieldsIf.weaken g fun _ _=>trivial) hG (.inl g) (p.set hj) f⟩
   ·have s:=wpOp_putIf m y (fun cs b=>hsel i oi cs b hi) (fun cs b=>hsel j oj cs b m) z hy l
    refine wpOp_mono (fun a' w' g=>?_) s;obtain⟨g,f⟩:=g;split
    ·rename_i d
     rcases A j (by simpa using d)with hd|hw
     ·have n:=(mem_ready.1 hj).1
      rcases iL j listed.size with h'|h'
      ·simp[h']at n hd;rw[n]at hd;cases hd
      ·simp[jk h']at hd
     ·exact absurd hj (qmU p hr hw).2
    ·rename_i d
     rw[if_neg d,kA _ _ (Ne.symm hji)]at f;obtain⟨G,q,hG,f⟩:=f;refine⟨G,q,hG,ih _ _ a' w' hfree' r (YieldsIf.weaken g q) hG (.inr fun k hk=>(A k hk).imp (fun hd=>?_) id) (p.set hj) f⟩;by_cases d:j=k
     ·subst d
      have J:j<listed.size:=by
       rcases iL j listed.size with h'|h'
       ·exact h'
       ·simp[jk h']at hd
      simp[J]
     ·rwa[getD_set_ne false d]
def qY (n:Nat)(done:List Nat):Array Bool:=done.foldl (fun l i=>l.setIfInBounds i true) (Array.replicate n false)
theorem qcf (n:Nat)(done:List Nat)(i:Nat):qY n (done++[i])=(qY n done).setIfInBounds i true:=by simp[qY]
def rund (P:Program)(N:Nat)(ops:Array Oper)(tot:Bool)(alt kill:List Nat):List Nat->List Nat->Fr->List Value->Option (Fr×List (World->Prop))
 |_,[],f,lv=>match lv with
  |[]=>some (f,[])
  |_=>none
 |done,i::is,f,lv=>match stepv P N ops alt f lv i with
  |some (f',cs,lv')=>
   if(Region.ready .any ops (qY ops.size done)).contains i&&Region.free .any ops (qY ops.size done) i&&(tot||cs.isEmpty||kill.all fun k=>(qY ops.size done).getD k false||(reach ops i).contains k)then
    match rund P N ops tot alt kill (done++[i]) is f' lv' with
    |some (f'',cs')=>some (f'',cs++cs')
    |none=>none
   else none
  |none=>none
def WD (P:Program)(N:Nat)(ops:Array Oper)(Q:Exit->Act->World->Prop)(kill:List Nat)(F:World->Prop)(done:List Nat)(f:Fr)(w:World):Prop:=
 ∀a,Has N f a->qaD P ops Q kill F (ops.size-done.length) (qY ops.size done) a w
def Calm (Q:Exit->Act->World->Prop):Exit->Act->World->Prop
 | .panic _,_,_=>False
 | .outgrown,_,_=>False
 |e,a,w=>Q e a w
theorem Calm.to {Q:Exit->Act->World->Prop}{e:Exit}{a:Act}{w:World}(h:Calm Q e a w):Q e a w:=by
 cases e<;>first|exact h|exact h.elim
theorem qog {P:Program}{N:Nat}{ops:Array Oper}{tot:Bool}{alt kill:List Nat}{Q:Exit->Act->World->Prop}{F:World->Prop}{w:World}(hs:Region.noSelect ops=true)(hF:F w):
  ∀(is done:List Nat) {f f':Fr} {lv:List Value} {cs:List (World->Prop)} {a:Act},rund P N ops tot alt kill done is f lv=some (f',cs)->Closed ops (qY ops.size done)->done.length+is.length<=ops.size->Has N f a->(∀w',F w'->qc6 cs w')->(tot=true-> ∀w',qc6 cs w')->
  (∀a',Has N f' a'->qaD P ops (Calm Q) kill F (ops.size-(done++is).length) (qY ops.size (done++is)) a' w)->qaD P ops (Calm Q) kill F (ops.size-done.length) (qY ops.size done) a w
 |[],done,f,f',lv,cs,a,h,_,hl,ha,hc,_,hr=>by
  unfold rund at h
  split at h
  ·simp only[ij,ib]at h
   obtain⟨rfl,rfl⟩:=h
   simpa using hr a ha
  ·cases h
 |i::is,done,f,f',lv,cs,a,h,hcl,hl,ha,hc,hT,hr=>by
  unfold rund at h
  split at h
  ·rename_i f1 cs1 lv1 hst
   split at h
   ·rename_i hb
    split at h
    ·rename_i f2 cs2 hr2
     simp only[ij,ib]at h
     obtain⟨rfl,rfl⟩:=h
     simp only[ii]at hb
     obtain⟨⟨b1,b2⟩,b4⟩:=hb
     have hc1:∀w',F w'->qc6 cs1 w':=fun w' h=>(AllC_append.1 (hc w' h)).1
     have hc2:∀w',F w'->qc6 cs2 w':=fun w' h=>(AllC_append.1 (hc w' h)).2
     obtain⟨o,v,ho,hy,ha'⟩:=qdl (S:=F) hst ha hc1
     have hall:(∀w',qc6 cs1 w')->YieldsIf P ops (fun _=>True) o v a:=fun hw=>by
      obtain⟨o',v',ho',hy',ha''⟩:=qdl (S:=fun _=>True) hst ha (fun w' _=>hw w')
      rw[ho]at ho'
      obtain rfl:=ia ho'
      rcases hy with⟨h1,h2⟩|⟨h1,h2⟩
      ·rcases hy' with⟨h3,h4⟩|⟨h3,h4⟩
       ·have e1:=h2 w hF
        have e2:=h4 w trivial
        rw[e1]at e2
        have:v=v':=by simpa using e2
        subst this
        exact .inl ⟨h3,h4⟩
       ·rw[h1]at h3;cases h3
      ·exact .inr ⟨h1,h2⟩
     have hk:YieldsIf P ops (fun _=>True) o v a\/ ∀k∈kill,(qY ops.size done).getD k false=true\/Waits ops i k:=by
      rcases Bool.or_eq_true_iff.1 b4 with b4|b4
      ·rcases Bool.or_eq_true_iff.1 b4 with b4|b4
       ·exact .inl (hall fun w'=>(AllC_append.1 (hT b4 w')).1)
       ·exact .inl (hall fun w'=>(show cs1=[]from by simpa using b4)▸trivial)
      ·exact .inr fun k hk=>(Bool.or_eq_true_iff.1 (j3.1 b4 k hk)).imp id fun hc=>qmT k (by simpa using hc)
     have b:i∈Region.ready .any ops (qY ops.size done):=by simpa using b1
     simp only[iz]at hl;rw[show ops.size-done.length=(ops.size-(done++[i]).length)+1 by simp;omega];refine qjg ho (Region.noSelect_spec hs) (fun c a a' w h=>h.elim) _ _ F a w (Region.free_spec ho b2) b hy hF hk hcl ?_;rw[<-qcf];refine qog hs hF is (done++[i]) hr2 (by rw[qcf];exact hcl.set b) (by simp;omega) ha' hc2 (fun ht w'=>(AllC_append.1 (hT ht w')).2) ?_;simpa using hr
    ·cases h
   ·cases h
  ·cases h
theorem x_dend {P:Program}{N:Nat}{ops:Array Oper}{Q:Exit->Act->World->Prop}{kill:List Nat}{F:World->Prop}{w:World}{done:List Nat}{f:Fr}(hk:ops.size=done.length)(hr:(Region.ready .any ops (qY ops.size done)).isEmpty=true)
  (h:∀a,Has N f a->Q .normal a w):WD P N ops (Calm Q) kill F done f w:=by
 intro a ha;rw[show ops.size-done.length=0 by omega];exact⟨by simpa using hr,h a ha⟩
theorem x_deff {P:Program}{N:Nat}{ops:Array Oper}{Q:Exit->Act->World->Prop}{kill:List Nat}{F:World->Prop}{w:World}{done:List Nat}{f:Fr}(k:Nat)(done':List Nat)
  (hr:(Region.ready .any ops (qY ops.size done)==[k])=true) (hk:kill.contains k=false) (hd:done++[k]=done') (hl:done.length<ops.size)
  (h:∀a,Has N f a->wpOp P ops Q k (fun a' w'=> ∃G:World->Prop,(∀u,G u->F u)/\G w'/\qaD P ops Q kill G (ops.size-done'.length) (qY ops.size done') a' w') a w):WD P N ops Q kill F done f w:=by
 intro a ha;subst hd;have hr':Region.ready .any ops (qY ops.size done)=[k]:=by simpa using hr
 rw[show ops.size-done.length=(ops.size-(done++[k]).length)+1 by simp;omega];refine⟨fun b=>(by rw[hr']at b;cases b),fun i hi=>?_⟩;rw[hr']at hi;obtain rfl:=iA.1 hi;rw[<-qcf];refine wpOp_mono (fun a' w' h'=>?_) (h a ha);rw[if_neg (by rw[hk];exact jH)];exact h'
theorem x_dkill {P:Program}{N:Nat}{ops:Array Oper}{Q:Exit->Act->World->Prop}{kill:List Nat}{F:World->Prop}{w:World}{done:List Nat}{f:Fr}(k:Nat)(done':List Nat)
  (hr:(Region.ready .any ops (qY ops.size done)==[k])=true) (hk:kill.contains k=true) (hd:done++[k]=done') (hl:done.length<ops.size)
  (h:∀a,Has N f a->wpOp P ops Q k (fun a' w'=> ∃G:World->Prop,G w'/\qaD P ops Q kill G (ops.size-done'.length) (qY ops.size done') a' w') a w):WD P N ops Q kill F done f w:=by
 intro a ha;subst hd;have hr':Region.ready .any ops (qY ops.size done)=[k]:=by simpa using hr
 rw[show ops.size-done.length=(ops.size-(done++[k]).length)+1 by simp;omega];refine⟨fun b=>(by rw[hr']at b;cases b),fun i hi=>?_⟩;rw[hr']at hi;obtain rfl:=iA.1 hi;rw[<-qcf];refine wpOp_mono (fun a' w' h'=>?_) (h a ha);rw[if_pos hk];exact h'
theorem x_held {P:Program}{N:Nat}{ops:Array Oper}{Q:Exit->Act->World->Prop}{kill:List Nat}{F G:World->Prop}{w:World}{done:List Nat}{f:Fr}(hGF:∀u,G u->F u)(hG:G w)(h:WD P N ops Q kill G done f w):
  ∀a,Has N f a-> ∃G:World->Prop,(∀u,G u->F u)/\G w/\qaD P ops Q kill G (ops.size-done.length) (qY ops.size done) a w:=fun a ha=>⟨G,hGF,hG,h a ha⟩
theorem q8 {P:Program}{N:Nat}{ops:Array Oper}{Q:Exit->Act->World->Prop}{kill:List Nat}{w:World}{done:List Nat}{f:Fr}(h:WD P N ops Q kill (fun u=>u=w) done f w):
  ∀a,Has N f a-> ∃G:World->Prop,G w/\qaD P ops Q kill G (ops.size-done.length) (qY ops.size done) a w:=fun a ha=>⟨fun u=>u=w,rfl,h a ha⟩
end Go.Proofs.YtjjcnhgpccancaaGreatDoor.X
namespace Go.Proofs.YtjjcnhgpccancaaGreatDoor.X
open Go Go.RowKit
theorem qc2 {a b:Nat}(h:Nat.ble a b=true):a<=b:=Nat.le_of_ble_eq_true h
theorem c_eq {cs:List (World->Prop)}{w:World}(h:qc6 cs w):∀u,u=w->qc6 cs u:=fun _ e=>e▸h
theorem in64 {n:Int}(h: -9223372036854775808<=n)(h':n<=9223372036854775807):InR .i64 n:=⟨h,h'⟩
theorem in32 {n:Int}(h: -2147483648<=n)(h':n<=2147483647):InR .i32 n:=⟨h,h'⟩
theorem in8 {n:Int}(h:0<=n)(h':n<=255):InR .u8 n:=⟨h,h'⟩
theorem qgm {n:Int}(h:0<=n)(h':n<=4294967295):InR .u32 n:=⟨h,h'⟩
theorem qao {n:Int}(h:0<=n)(h':n<=18446744073709551615):InR .u64 n:=⟨h,h'⟩
theorem not_t {b:Bool}(h:(!b)=true):b=false:=by cases b<;>simp_all
theorem not_f {b:Bool}(h:(!b)=false):b=true:=by cases b<;>simp_all
structure Ch (B:Nat->Prop)(w w':World):Prop where
 os:w'.os=w.os
 tape:w'.tape=w.tape
 output:w'.output=w.output
 size:w.heap.size<=w'.heap.size
 block:∀k,k<w.heap.size-> ¬B k->w'.heap[k]? =w.heap[k]?
theorem Ch.refl (B:Nat->Prop)(w:World):Ch B w w:=⟨rfl,rfl,rfl,iE _,fun _ _ _=>rfl⟩
theorem Ch.trans {B B':Nat->Prop}{a b c:World}(h:Ch B a b)(k:Ch B' b c)(hB:∀i,i<a.heap.size->B' i->B i):Ch B a c:=
 ⟨k.os.trans h.os,k.tape.trans h.tape,k.output.trans h.output,iq h.size k.size,
  fun i hi hn=>(k.block i (ic hi h.size) fun hb=>hn (hB i hi hb)).trans (h.block i hi hn)⟩
theorem Ch.mono {B B':Nat->Prop}{a b:World}(h:Ch B a b)(hB:∀i,i<a.heap.size->B i->B' i):Ch B' a b:=
 ⟨h.os,h.tape,h.output,h.size,fun i hi hn=>h.block i hi fun hb=>hn (hB i hi hb)⟩
theorem Ch.drew (B:Nat->Prop)(w:World):Ch B w w.drew:=⟨rfl,rfl,rfl,iE _,fun _ _ _=>rfl⟩
theorem Ch.alloc (B:Nat->Prop)(w:World)(o:Obj):Ch B w (w.alloc o):=by
 refine⟨rfl,rfl,rfl,by show _<=(w.heap.push o).size;simp,fun k hk _=>?_⟩;show(w.heap.push o)[k]? =_;simp[Array.getElem?_push,Nat.ne_of_lt hk]
theorem Ch.setRow (w:World)(g:Nat)(cs:Array Value):Ch (fun k=>k=g) w (w.setRow g cs):=by
 refine⟨rfl,rfl,rfl,by simp[World.setRow],fun k hk hn=>?_⟩;simp[World.setRow,Array.getElem?_modify,Ne.symm hn]
theorem Ch.grown {w w':World}{row:Option Nat}(h:w.grownBy w' row):Ch (fun k=>some k=row) w w':=⟨h.os,h.tape,h.output,h.size,fun k hk hn=>h.block k hk hn⟩
def Blk (w:World)(b:Nat)(cs:List Value)(T:TypeId):Prop:=w.heap[b]? =some (.cells cs.toArray T (0,0))
theorem Blk.lt {w:World}{b:Nat}{cs:List Value}{T:TypeId}(h:Blk w b cs T):b<w.heap.size:=(ku.1 h).1
theorem Blk.ch {w w':World}{b:Nat}{cs:List Value}{T:TypeId}{B:Nat->Prop}(h:Blk w b cs T)(hc:Ch B w w')(hn:¬B b):Blk w' b cs T:=(hc.block b h.lt hn).trans h
theorem Blk.cell {w:World}{b:Nat}{cs:List Value}{T:TypeId}(h:Blk w b cs T)(i:Nat):w.cell? ⟨b,i,none⟩=cs[i]? :=by
 simp[World.cell?,show w.heap[b]? =some (.cells cs.toArray T (0,0))from h]
theorem Blk.new (w:World)(cs:List Value)(T:TypeId):Blk (w.alloc (.cells cs.toArray T (0,0))) w.heap.size cs T:=by
 show(w.heap.push _)[w.heap.size]? =_;simp
theorem Blk.inj {w:World}{b:Nat}{cs cs':List Value}{T T':TypeId}(h:Blk w b cs T)(h':Blk w b cs' T'):cs=cs'/\T=T':=by
 have:=ia (Eq.trans (Eq.symm h) h');simp at this;exact this
def put (cs:List Value)(o:Nat)(vs:List Value):List Value:=cs.take o++vs++cs.drop (o+vs.length)
theorem Blk.set {w:World}{b:Nat}{cs:List Value}{T:TypeId}(h:Blk w b cs T)(cs':List Value):Blk (w.setRow b cs'.toArray) b cs' T:=setRow_heap w b _ _ T (0,0) h
def qfP (N:Nat)(ops:Array Oper)(f:Fr)(k:Nat):Option (Op×Option Tmp):=
 match ops[k]? with
 |some o=>if qoc N o.dst then
   match wantR f ops o with
   |some true=>some (o.op,o.dst)
   |_=>none
  else none
 |none=>none
theorem qau {P:Program}{N:Nat}{ops:Array Oper}{Q:Exit->Act->World->Prop}{f:Fr}{k:Nat}{op:Op}{d:Option Tmp}{K:Act->World->Prop}{a:Act}{w:World}
  (h:qfP N ops f k=some (op,d)) (ha:Has N f a) (hr:∀o:Oper,o.op=op->o.dst=d->qoc N d=true->o.wp P a w K Q):wpOp P ops Q k K a w:=by
 unfold qfP at h;unfold wpOp;cases ho:ops[k]? with
 |none=>rw[ho]at h;cases h
 |some o=>
  rw[ho]at h;simp only at h⊢;split at h
  ·rename_i hd
   split at h
   ·rename_i hw
    simp only[ij,ib]at h;rw[if_pos (qie hw ha)];exact .inl (hr o h.1 h.2 (h.2▸hd))
   ·cases h
  ·cases h
section
variable {P:Program}{N:Nat}{ops:Array Oper}{Q:Exit->Act->World->Prop}{f:Fr}{k:Nat}{d:Option Tmp}{K:Act->World->Prop}{w:World}
theorem qoh {t:TypeId}{x y:Operand}{b o:Nat}{v:Value}{cs:List Value}{T:TypeId}
  (ho:qfP N ops f k=some (.store t x y,d)) (hx:ev f x=some (.pointer (some ⟨b,o,none⟩))) (hy:ev f y=some v) (hsz:qfj P t=some v.cells.size) (h1:(v.cells.toList.all fun c=>c.oneCell')=true)
  (hb:Blk w b cs T) (hfit:o+v.cells.size<=cs.length) (hK:∀w',Blk w' b (put cs o v.cells.toList) T->Ch (fun k=>k=b) w w'-> ∀a',Has N (pushd d undef f) a'->K a' w'):∀a,Has N f a->wpOp P ops Q k K a w:=by
 intro a ha;refine qau ho ha fun o' e hd g=>?_;have h:(storeVar t ⟨b,o,none⟩ v).run P w= .ok () (w.setRow b (put cs o v.cells.toList).toArray):=by
  have:=run_storeCells_at P b o T v.cells.toList 0 cs.toArray w hb (by simpa using hfit) (fun u hu=>j3.1 h1 u hu);simp only[storeVar,Sem.run_bind,qbr hsz,Result.andThen_ok];simp only[ne_eq,not_true_eq_false,if_false];simpa[put]using this
 have:(execOp a.eval o').run P w= .ok .skip (w.setRow b (put cs o v.cells.toList).toArray):=by
  simp[execOp,e,qC ha hx,qC ha hy,Instr.storeAt,Instr.sureAddr,h]
 simp only[Oper.wp,this,Oper.upon];rw[hd];exact hK _ (hb.set _) (Ch.setRow _ _ _) _ (ha.pushd g undef)
theorem qoi {t:TypeId}{z:Value}(ho:qfP N ops f k=some (.alloc t,d))(hz:(P.info? t).bind (·.zero)=some z)
  (hK:∀w' b,b=w.heap.size->w'.heap.size=w.heap.size+1->Blk w' b z.cells.toList t->Ch (fun _=>False) w w'-> ∀a',Has N (pushd d (.pointer (some ⟨b,0,none⟩)) f) a'->K a' w'):∀a,Has N f a->wpOp P ops Q k K a w:=by
 intro a ha;refine qau ho ha fun o' c hd e=>?_;have:(execOp a.eval o').run P w= .ok (.value (.pointer (some ⟨w.heap.size,0,none⟩))) (w.alloc (.cells z.cells t (0,0))):=by
  simp[execOp,c,Instr.alloc,qeq hz,newVar,newRow]
 simp only[Oper.wp,this,Oper.upon];rw[hd];exact hK _ _ rfl (by show(w.heap.push _).size=_;simp) (Blk.new w z.cells.toList t) (Ch.alloc _ _ _) _ (ha.pushd e _)
theorem eff_box {t:TypeId}{x:Operand}{v:Value}(ho:qfP N ops f k=some (.box t x,d))(hx:ev f x=some v)
  (hK:∀w' b,b=w.heap.size->w'.heap.size=w.heap.size+1->Blk w' b v.cells.toList t->Ch (fun _=>False) w w'-> ∀a',Has N (pushd d (.pointer (some ⟨b,0,none⟩)) f) a'->K a' w'):∀a,Has N f a->wpOp P ops Q k K a w:=by
 intro a ha;refine qau ho ha fun o' c hd e=>?_;have:(execOp a.eval o').run P w= .ok (.value (.pointer (some ⟨w.heap.size,0,none⟩))) (w.alloc (.cells v.cells t (0,0))):=by
  simp[execOp,c,Instr.box,qC ha hx,newVar,newRow]
 simp only[Oper.wp,this,Oper.upon];rw[hd];exact hK _ _ rfl (by show(w.heap.push _).size=_;simp) (Blk.new w v.cells.toList t) (Ch.alloc _ _ _) _ (ha.pushd e _)
def qer (P:Program)(g:FuncId):Bool:=
 match P.funcs[g]? with
 |some fn=>fn.name != "runtime.NumGoroutine" &&fn.body.isSome
 |none=>false
theorem eff_call {g:FuncId}{args:Array Operand}{tys:Array TypeId}{vs:List Value}{R:Ending->World->Prop}
  (ho:qfP N ops f k=some (.call ⟨.value (.func g),args,tys⟩,d)) (hg:qer P g=true) (hv:evs f args.toList=some vs) (hc:Calls P g vs.toArray w R)
  (hK:∀e w',R e w'-> ∃v,e= .returned v/\ ∀a',Has N (pushd d v f) a'->K a' w'):∀a,Has N f a->wpOp P ops Q k K a w:=by
 intro a ha;refine qau ho ha fun o' b hd c=>?_;unfold qer at hg;cases hf:P.funcs[g]? with
 |none=>rw[hf]at hg;cases hg
 |some fn=>
  rw[hf]at hg;simp only[ii,bne_iff_ne]at hg;have:(execOp a.eval o').run P w= .ok (.enter g vs.toArray) w:=by
   have e:=qbO ha hv;have hn:fn.body.isNone=false:=by cases hb:fn.body<;>simp_all
   simp[execOp,b,resolve,e,Deferred.ofValue,Act.eval,invoke,callFunc,hf,hg.1];intro h;rw[h]at hn;cases hn
  simp only[Oper.wp,this,Oper.upon];rw[hd];refine Calls.mono hc fun e w' he=>?_;obtain⟨v,rfl,h⟩:=hK e w' he;exact h _ (ha.pushd c v)
def bsv (P:Program)(t:TypeId)(len:Nat)(ps:List (Nat×Value)):Option (List Value×TypeId):=
 match P.underlying t with
 |some (.slice e)=>match qfj P e,(P.info? e).bind (·.zero)with
  |some s,some z=>if len*s<=16777216/\0<len*s then
    match Instr.fill (fun i=>some (i*s,s)) ((Array.range (len*s)).map (z.cells[· % z.cells.size]!)) ps with
    |some cs=>some (cs.toList,e)
    |none=>none
   else none
  |_,_=>none
 |_=>none
theorem qhh {t e:TypeId}{len:Nat}{parts:Array (Nat×Operand)}{ps:List (Nat×Value)}{cs:List Value}(ho:qfP N ops f k=some (.buildSlice t len parts,d))(hp:evp f parts.toList=some ps)
  (hb:bsv P t len ps=some (cs,e))
  (hK:∀w' b,b=w.heap.size->w'.heap.size=w.heap.size+1->Blk w' b cs e->Ch (fun _=>False) w w'-> ∀a',Has N (pushd d (.slice (some ⟨b,0,none⟩) len len) f) a'->K a' w'):∀a,Has N f a->wpOp P ops Q k K a w:=by
 intro a ha;refine qau ho ha fun o' g hd h=>?_;unfold bsv at hb;split at hb
 ·rename_i e' hu
  split at hb
  ·rename_i s z hs hz
   split at hb
   ·rename_i m
    split at hb
    ·rename_i c hf
     simp only[ij,ib]at hb;obtain⟨rfl,rfl⟩:=hb;have ee:(parts.map fun(i,x)=>(i,a.eval x))=ps.toArray:=by
      apply js.1;simpa using qic ha hp
     have j:¬len*s=0:=by omega
     have l:¬len*s>2^24:=by omega
     have:(execOp a.eval o').run P w= .ok (.value (.slice (some ⟨w.heap.size,0,none⟩) len len)) (w.alloc (.cells c e' (0,0))):=by
      simp only[execOp,g];rw[ee];simp only[Instr.buildSlice,Sem.run_bind,qL hu,Result.andThen_ok,qbr hs,if_neg j,if_neg l,qeq hz,Sem.run_pure,hf,newRow];rfl
     simp only[Oper.wp,this,Oper.upon];rw[hd];exact hK _ _ rfl (by show(w.heap.push _).size=_;simp) (Blk.new w c.toList e') (Ch.alloc _ _ _) _ (ha.pushd h _)
    ·cases hb
   ·cases hb
  ·cases hb
 ·cases hb
end
section
variable {P:Program}{N:Nat}{ops:Array Oper}{Q:Exit->Act->World->Prop}{f:Fr}{k:Nat}{K:Act->World->Prop}{w:World}
def qlB (P:Program)(N:Nat)(ops:Array Oper)(f:Fr)(k:Nat):Option (FuncId×List Value×Option Tmp):=
 match qfP N ops f k with
 |some (.call ⟨.value (.func g),args,_⟩,d)=>if qer P g then(evs f args.toList).map fun vs=>(g,vs,d)else none
 |_=>none
theorem e_call {g:FuncId}{vs:List Value}{R:Ending->World->Prop}(d:Option Tmp)(h:qlB P N ops f k=some (g,vs,d))(hc:Calls P g vs.toArray w R)
  (hK:∀e w',R e w'-> ∃v,e= .returned v/\ ∀a',Has N (pushd d v f) a'->K a' w'):∀a,Has N f a->wpOp P ops Q k K a w:=by
 unfold qlB at h;split at h
 ·rename_i g' b tys d' ho
  split at h
  ·rename_i hg
   simp only[iB,ib]at h;obtain⟨c,hv,rfl,rfl,rfl⟩:=h;exact eff_call ho hg hv hc hK
  ·cases h
 ·cases h
def storeAt (P:Program)(N:Nat)(ops:Array Oper)(f:Fr)(k:Nat):Option (Nat×Nat×List Value×Option Tmp):=
 match qfP N ops f k with
 |some (.store t x y,d)=>match ev f x,ev f y with
  |some (.pointer (some ⟨b,o,none⟩)),some v=>match qfj P t with
   |some n=>if n=v.cells.size/\(v.cells.toList.all fun c=>c.oneCell')=true then some (b,o,v.cells.toList,d)else none
   |none=>none
  |_,_=>none
 |_=>none
theorem qaL {b:Nat}{cs:List Value}{T:TypeId}(o:Nat)(vs:List Value)(d:Option Tmp)(h:storeAt P N ops f k=some (b,o,vs,d))(hb:Blk w b cs T)(hfit:o+vs.length<=cs.length)
  (hK:∀w',Blk w' b (put cs o vs) T->Ch (fun k=>k=b) w w'-> ∀a',Has N (pushd d undef f) a'->K a' w'):∀a,Has N f a->wpOp P ops Q k K a w:=by
 unfold storeAt at h;split at h
 ·rename_i t x y d' ho
  split at h
  ·rename_i b' o' v hx hy
   split at h
   ·rename_i n hn
    split at h
    ·rename_i hc
     simp only[ij,ib]at h;obtain⟨rfl,rfl,rfl,rfl⟩:=h;exact qoh ho hx hy (by rw[hn,hc.1]) hc.2 hb (by simpa using hfit) hK
    ·cases h
   ·cases h
  ·cases h
 ·cases h
def newAt (P:Program)(N:Nat)(ops:Array Oper)(f:Fr)(k:Nat):Option (List Value×TypeId×Option Tmp):=
 match qfP N ops f k with
 |some (.alloc t,d)=>((P.info? t).bind (·.zero)).map fun z=>(z.cells.toList,t,d)
 |some (.box t x,d)=>(ev f x).map fun v=>(v.cells.toList,t,d)
 |_=>none
theorem e_new (cs:List Value)(t:TypeId)(d:Option Tmp)(h:newAt P N ops f k=some (cs,t,d))
  (hK:∀w' b,b=w.heap.size->w'.heap.size=w.heap.size+1->Blk w' b cs t->Ch (fun _=>False) w w'-> ∀a',Has N (pushd d (.pointer (some ⟨b,0,none⟩)) f) a'->K a' w'):∀a,Has N f a->wpOp P ops Q k K a w:=by
 unfold newAt at h;split at h
 ·rename_i t' d' ho
  simp only[iB,ib]at h;obtain⟨z,hz,rfl,rfl,rfl⟩:=h;exact qoi ho hz hK
 ·rename_i t' x d' ho
  simp only[iB,ib]at h;obtain⟨z,hz,rfl,rfl,rfl⟩:=h;exact eff_box ho hz hK
 ·cases h
def bsAt (P:Program)(N:Nat)(ops:Array Oper)(f:Fr)(k:Nat):Option (List Value×TypeId×Nat×Option Tmp):=
 match qfP N ops f k with
 |some (.buildSlice t len parts,d)=>match evp f parts.toList with
  |some ps=>(bsv P t len ps).map fun r=>(r.1,r.2,len,d)
  |none=>none
 |_=>none
theorem e_bs (cs:List Value)(t:TypeId)(len:Nat)(d:Option Tmp)(h:bsAt P N ops f k=some (cs,t,len,d))
  (hK:∀w' b,b=w.heap.size->w'.heap.size=w.heap.size+1->Blk w' b cs t->Ch (fun _=>False) w w'-> ∀a',Has N (pushd d (.slice (some ⟨b,0,none⟩) len len) f) a'->K a' w'):∀a,Has N f a->wpOp P ops Q k K a w:=by
 unfold bsAt at h;split at h
 ·rename_i t' c e d' ho
  split at h
  ·rename_i ps hp
   simp only[iB,ib]at h;obtain⟨⟨g,i⟩,hr,rfl,rfl,rfl,rfl⟩:=h;exact qhh ho hp hr hK
  ·cases h
 ·cases h
end
def WC (P:Program)(N:Nat)(Q:Exit->Act->World->Prop)(c:Code)(f:Fr)(w:World):Prop:= ∀a,Has N f a->c.wp P Q a w
section
variable {P:Program}{N:Nat}{Q:Exit->Act->World->Prop}{f:Fr}{w:World}
theorem x_seq {x y:Code}(h:∀K:Act->World->Prop,(∀f' w',WC P N Q y f' w'-> ∀a,Has N f' a->K a w')->WC P N (Exit.then K Q) x f w):WC P N Q (.seq x y) f w:=
 fun a ha=>wp_seq (h _ (fun _ _ hy a ha=>hy a ha) a ha)
theorem qo (h:∀a,Has N f a->Q .normal a w):WC P N Q .skip f w:=fun a ha=>wp_skip (h a ha)
theorem qm {id:Nat}(h:∀a,Has N f a->Q (.exit id) a w):WC P N Q (.exit id) f w:=fun a ha=>wp_exit (h a ha)
theorem q9 (h:∀a,Has N f a->Q .ret a w):WC P N Q .ret f w:=fun a ha=>wp_ret (h a ha)
theorem qa {id:Nat}{c:Code}(h:WC P N (Exit.inBlock id Q) c f w):WC P N Q (.block id c) f w:=fun a ha=>wp_block (h a ha)
theorem x_cond {c:Operand}{x y:Code}{b:Bool}(hc:ev f c=some (.bool b))(ht:b=true->WC P N Q x f w)(hf:b=false->WC P N Q y f w):WC P N Q (.cond c x y) f w:=
 fun a ha=>wp_cond_split (qC ha hc) (fun e=>ht e a ha) (fun e=>hf e a ha)
theorem x_cond_t {c:Operand}{x y:Code}(hc:ev f c=some (.bool true))(ht:WC P N Q x f w):WC P N Q (.cond c x y) f w:=fun a ha=>wp_cond_true (qC ha hc) (ht a ha)
theorem x_cond_f {c:Operand}{x y:Code}(hc:ev f c=some (.bool false))(hf:WC P N Q y f w):WC P N Q (.cond c x y) f w:=fun a ha=>wp_cond_false (qC ha hc) (hf a ha)
theorem x_keep {c:Code}(ks:List Nat){f':Fr}(hk:keep ks f=f')(h:WC P N Q c f' w):WC P N Q c f w:=fun a ha=>h a (by subst hk;exact ha.keep ks)
theorem q7 {id:Nat}{ops:Array Oper}(h:WS P N ops Q 0 f w):WC P N Q (.region id ops false) f w:=fun a ha=>wp_region (by
 have:=h a ha
 rwa[Nat.sub_zero,<-List.range_eq_range']at this)
theorem x_drawnF {id:Nat}{ops:Array Oper}(kill:List Nat)(F:World->Prop)(hm:P.follows .mixedOrders=true)(h:∀w',w'.heap=w.heap->Ch (fun _=>False) w w'->WD P N ops (Calm Q) kill F [] f w'):WC P N Q (.region id ops true) f w:=fun a ha=>
 wp_mono (wp_region_any hm (qcb _ F _ _ _ (h w.drew rfl (Ch.drew _ _) a ha))) fun _ _ _ hq=>hq.to
theorem qoj {id:Nat}{ops:Array Oper}(kill:List Nat)(hm:P.follows .mixedOrders=true)(h:∀w',w'.heap=w.heap->Ch (fun _=>False) w w'->WD P N ops (Calm Q) kill (fun u=>u=w') [] f w'):WC P N Q (.region id ops true) f w:=fun a ha=>
 wp_mono (wp_region_any hm (qcb _ (fun u=>u=w.drew) _ _ _ (h w.drew rfl (Ch.drew _ _) a ha))) fun _ _ _ hq=>hq.to
theorem x_drawnC {id:Nat}{ops:Array Oper}(kill:List Nat)(hm:P.follows .mixedOrders=true)(h:∀w',w'.heap=w.heap->Ch (fun _=>False) w w'->WD P N ops (Calm Q) kill (fun u=>Ch (fun _=>False) w' u) [] f w'):WC P N Q (.region id ops true) f w:=fun a ha=>
 wp_mono (wp_region_any hm (qcb _ (fun u=>Ch (fun _=>False) w.drew u) _ _ _ (h w.drew rfl (Ch.drew _ _) a ha))) fun _ _ _ hq=>hq.to
theorem qaN {ops:Array Oper}{kill:List Nat}{w1 w2:World}{done:List Nat}{f:Fr}(hc:Ch (fun _=>False) w1 w2)(h:WD P N ops Q kill (fun u=>Ch (fun _=>False) w2 u) done f w2):
  ∀a,Has N f a-> ∃G:World->Prop,(∀u,G u->Ch (fun _=>False) w1 u)/\G w2/\qaD P ops Q kill G (ops.size-done.length) (qY ops.size done) a w2:=
 x_held (fun _ hu=>hc.trans hu fun _ _ h=>h) (Ch.refl _ _) h
theorem qw {σ:Type}{c:Code}(fr:σ->Fr)(I:σ->World->Prop)(μ:σ->Nat)(s₀:σ)(hf:fr s₀=f)(h₀:I s₀ w)
  (round:∀s w,I s w-> ∀K:Act->World->Prop,(∀s' w',I s' w'->μ s'<μ s-> ∀a,Has N (fr s') a->K a w')->WC P N (Exit.then K Q) c (fr s) w):WC P N Q (.loop c) f w:=by
 intro a ha;subst hf;refine wp_loop_ghost (fun n a w=> ∃s,μ s=n/\I s w/\Has N (fr s) a) (μ s₀) ⟨s₀,rfl,h₀,ha⟩ ?_;rintro n a w ⟨s,rfl,hI,ha⟩;exact round s w hI _ (fun s' w' b e a' g=>⟨μ s',e,s',rfl,b,g⟩) a ha
end
theorem qy {N:Nat}{f:Fr}{w:World}{Q:Exit->Act->World->Prop}{K:Act->World->Prop}(h:∀a,Has N f a->Q .ret a w):∀a,Has N f a->Exit.then K Q .ret a w:=h
theorem qd {N:Nat}{f:Fr}{w:World}{Q:Exit->Act->World->Prop}{K:Act->World->Prop}{id:Nat}(h:∀a,Has N f a->Q (.exit id) a w):∀a,Has N f a->Exit.then K Q (.exit id) a w:=h
theorem qb {N:Nat}{f:Fr}{w:World}{Q:Exit->Act->World->Prop}{id:Nat}(h:∀a,Has N f a->Q .normal a w):∀a,Has N f a->Exit.inBlock id Q (.exit id) a w:=fun a ha=>by
 show(if id=id then Q .normal a w else Q (.exit id) a w)
 rw[if_pos rfl];exact h a ha
def qht (i:Nat):List Value->Fr
 |[]=>[]
 |v::vs=>(i,v)::qht (i+1) vs
theorem qhu:∀(vs:List Value) (i t:Nat) (v:Value),get (qht i vs) t=some v->i<=t/\vs[t-i]? =some v
 |[],_,_,_,h=>by simp[qht,get]at h
 |u::vs,i,t,v,h=>by
  simp only[qht,get]at h
  split at h
  ·rename_i e
   subst e
   simp at h
   simp[h]
  ·obtain⟨h1,h2⟩:=qhu vs (i+1) t v h
   refine⟨by omega,?_⟩
   rw[show t-i=(t-(i+1))+1 by omega]
   simpa using h2
theorem x_enter {P:Program}{g:FuncId}{fn:Func}{c:Code}{args:List Value}{w:World}{R:Ending->World->Prop}(hf:P.funcs[g]? =some fn)(hb:fn.body=some c)(hn:args.length<=fn.ntmps)
  (h:WC P fn.ntmps (bodyPost P fn R) c (qht 0 args) w):Calls P g args.toArray w R:=by
 refine calls_of_wp hf hb (h _ ⟨by simp;omega,rfl,fun t v hv=>?_⟩);obtain⟨_,a⟩:=qhu args 0 t v hv;have b:t<args.length:=by
  rcases iL t args.length with h'|h'
  ·exact h'
  ·rw[jn (by omega)]at a;cases a
 simp only[Nat.sub_zero]at a;rw[jS,Array.getElem?_append_left (by simpa using b)];simp[a]
section
variable {P:Program}{N:Nat}{fn:Func}{R:Ending->World->Prop}{f:Fr}{w:World}
theorem x_done0 (hr:fn.results= #[])(h:R (.returned (.tuple #[])) w):∀a,Has N f a->bodyPost P fn R .ret a w:=
 fun _ ha=>⟨ha.defers,_,results_none hr _ _ _,h⟩
theorem x_done0' (hr:fn.results= #[])(h:R (.returned (.tuple #[])) w):∀a,Has N f a->bodyPost P fn R .normal a w:=
 fun _ ha=>⟨ha.defers,_,results_none hr _ _ _,h⟩
theorem x_done1 {t:Tmp}{v:Value}(hr:fn.results= #[.tmp t])(hv:get f t=some v)(h:R (.returned v) w):∀a,Has N f a->bodyPost P fn R .ret a w:=
 fun a ha=>⟨ha.defers,_,results_tmp hr _ _ _,by rw[ha.get t v hv];exact h⟩
end
end Go.Proofs.YtjjcnhgpccancaaGreatDoor.X
namespace Go.Proofs.YtjjcnhgpccancaaGreatDoor.X
open Go Go.RowKit
def at0 (g:Nat):Addr:=⟨g,0,none⟩
def Rd (w:World)(a:Option Addr)(ys:List Value):Prop:=(a=none->ys=[])/\ ∀ad,a=some ad-> ∀j u,ys[j]? =some u->w.cell? (ad.add j)=some u
theorem Rd.nil (w:World)(a:Option Addr):Rd w a []:=⟨fun _=>rfl,fun _ _ j u h=>by simp at h⟩
theorem Rd.blk {w:World}{b o:Nat}{cs ys:List Value}{T:TypeId}(h:Blk w b cs T)(hy:∀j,j<ys.length->ys[j]? =cs[o+j]?):Rd w (some ⟨b,o,none⟩) ys:=
 ⟨(fun e=>by cases e),fun ad e j u hj=>by
  obtain rfl:=ia e
  have hlt:j<ys.length:=by
   rcases iL j ys.length with h'|h'
   ·exact h'
   ·simp[jn h']at hj
  rw[qaZ,h.cell,<-hy j hlt,hj]⟩
theorem Rd.pre {w:World}{b:Nat}{ys r:List Value}{T:TypeId}(h:Blk w b (ys++r) T):Rd w (some ⟨b,0,none⟩) ys:=
 Rd.blk h fun j hj=>by rw[iJ,iw hj]
theorem Rd.drop {w:World}{b cap l sz:Nat}{xs ys r:List Value}{T:TypeId}(h:Blk w b (xs++ys++r) T)(hx:xs.length=l*sz)(hn:cap=l->ys=[]):
  Rd w (some ⟨b,if cap=l then 0 else 0+l*sz,none⟩) ys:=by
 by_cases e:cap=l
 ·rw[hn e];exact Rd.nil _ _
 ·rw[if_neg e,iJ]
  exact Rd.blk h fun j hj=>by rw[<-hx,ie,iF (by omega),iw (by omega)];congr 1;omega
theorem Rd.ch {w w':World}{a:Option Addr}{ys:List Value}{B:Nat->Prop}(h:Rd w a ys)(hc:Ch B w w')(hn:∀ad,a=some ad-> ¬B ad.block):Rd w' a ys:=
 ⟨h.1,fun ad e j u hj=>by
  have hcell:=h.2 ad e j u hj
  have hb:(ad.add j).block=ad.block:=by unfold Addr.add;split<;>rfl
  exact(World.cell?_of_block (hc.block _ (World.block_lt_of_cell? w _ hcell) (by rw[hb];exact hn ad e))).trans hcell⟩
def Own (w:World)(e:TypeId)(sz:Nat)(o:Option Nat)(n cap:Nat)(xs:List Value):Prop:=
 xs.length=n*sz/\n<=cap/\cap<=maxLen/\(o=none->n=0/\cap=0)/\ ∀g,o=some g-> ∃rest,rest.length=(cap-n)*sz/\Blk w g (xs++rest) e
theorem Own.nil (w:World)(e:TypeId)(sz:Nat):Own w e sz none 0 0 []:=⟨by simp,iE _,ir _,fun _=>⟨rfl,rfl⟩,fun _ h=>by cases h⟩
theorem Own.blk {w:World}{e:TypeId}{sz g n:Nat}{xs:List Value}(h:Blk w g xs e)(hl:xs.length=n*sz)(hn:n<=maxLen):Own w e sz (some g) n n xs:=
 ⟨hl,iE _,hn,(fun e=>by cases e),fun g' e=>⟨[],by simp,by cases e;simpa using h⟩⟩
theorem Own.ch {w w':World}{e:TypeId}{sz:Nat}{o:Option Nat}{n cap:Nat}{xs:List Value}{B:Nat->Prop}(h:Own w e sz o n cap xs)(hc:Ch B w w')(hn:∀g,o=some g-> ¬B g):Own w' e sz o n cap xs:=
 ⟨h.1,h.2.1,h.2.2.1,h.2.2.2.1,fun g e=>by
  obtain⟨r,hr,hb⟩:=h.2.2.2.2 g e
  exact⟨r,hr,hb.ch hc (hn g e)⟩⟩
theorem Own.rd {w:World}{e:TypeId}{sz:Nat}{o:Option Nat}{n cap:Nat}{xs:List Value}(h:Own w e sz o n cap xs):Rd w (o.map at0) xs:=by
 cases o with
 |none=>
  have hx:=h.1;rw[(h.2.2.2.1 rfl).1,km]at hx;rw[iy hx];exact Rd.nil _ _
 |some g=>
  obtain⟨r,_,hb⟩:=h.2.2.2.2 g rfl;exact Rd.pre hb
theorem Own.lt {w:World}{e:TypeId}{sz g:Nat}{n cap:Nat}{xs:List Value}(h:Own w e sz (some g) n cap xs):g<w.heap.size:=by
 obtain⟨r,_,hb⟩:=h.2.2.2.2 g rfl;exact hb.lt
theorem Own.owns {w:World}{e:TypeId}{sz g:Nat}{n cap:Nat}{xs:List Value}(h:Own w e sz (some g) n cap xs):w.ownsRow 0 e sz (.slice (some ⟨g,0,none⟩) n cap) n xs:=by
 obtain⟨r,hr,hb⟩:=h.2.2.2.2 g rfl;refine⟨h.1,.inr ⟨g,cap,(xs++r).toArray,rfl,ir _,hb,h.2.1,h.2.2.1,?_,?_⟩⟩
 ·rw[List.size_toArray,hJ,hr,h.1,<-Nat.add_mul]
  congr 1;have:=h.2.1;omega
 ·rw[<-h.1];exact jU
section
variable {P:Program}{N:Nat}{ops:Array Oper}{Q:Exit->Act->World->Prop}{f:Fr}{k:Nat}{K:Act->World->Prop}{w:World}
def qjh (P:Program)(N:Nat)(ops:Array Oper)(f:Fr)(k:Nat):Option (TypeId×Nat×Nat×Value×Value×Option Tmp):=
 match qfP N ops f k with
 |some (.call ⟨.builtin .append,args,tys⟩,d)=>match tys.toList,evs f args.toList with
  |[t,t'],some [u,v]=>if t=t' then match P.underlying t with
    |some (.slice e)=>match qfj P e,(P.info? e).bind (·.zero),(P.info? e).map (·.bytes)with
     |some sz,some z,some bs=>if z.cells.size=sz/\0<sz then some (e,sz,bs,u,v,d)else none
     |_,_,_=>none
    |_=>none
   else none
  |_,_=>none
 |_=>none
theorem qcI {P:Program}{e:TypeId}{sz:Nat}(h:qfj P e=some sz):∃i,P.info? e=some i/\i.size=sz:=by
 unfold qfj at h;cases hi:P.info? e with
 |none=>simp[hi]at h
 |some i=>exact⟨i,rfl,by simpa[hi]using h⟩
theorem qmV {e:TypeId}{sz bs:Nat}{u v:Value}{d:Option Tmp}(h:qjh P N ops f k=some (e,sz,bs,u,v,d)){a:Act}(ha:Has N f a){w':World}{r:Value}
  (hr:∀t ty i z,P.underlying t=some (.slice e)->P.info? e=some i->i.zero=some z->i.size=sz->i.bytes=bs->z.cells.size=sz->0<sz->(Builtin.append_ #[t,t] ty #[u,v]).run P w= .ok r w')
  (hK:∀a',Has N (pushd d r f) a'->K a' w'):wpOp P ops Q k K a w:=by
 unfold qjh at h;split at h
 ·rename_i o tys d' ho
  split at h
  ·rename_i t t' u' v' ht hv
   split at h
   ·rename_i g
    subst g;split at h
    ·rename_i e' hu
     split at h
     ·rename_i p z q hs hz hb
      split at h
      ·rename_i b
       simp only[ij,ib]at h;obtain⟨rfl,rfl,rfl,rfl,rfl,rfl⟩:=h;obtain⟨i,hi,j⟩:=qcI hs;rw[hi]at hz hb;have l:tys= #[t,t]:=by apply js.1;simpa using ht
       refine qau ho ha fun o' c hd m=>?_;have he:=qbO ha hv;have n:=hr t o'.type i z hu hi (by simpa using hz) j (by simpa using hb) b.1 b.2;have:(execOp a.eval o').run P w= .ok (.value r) w':=by
        rw[l]at c;simp[execOp,c,resolve,he,invoke,builtin,n]
       simp only[Oper.wp,this,Oper.upon];rw[hd];exact hK _ (ha.pushd m r)
      ·cases h
     ·cases h
    ·cases h
   ·cases h
  ·cases h
 ·cases h
theorem e_app (e:TypeId)(sz bs:Nat)(o:Option Nat)(n cap:Nat)(xs:List Value)(a2:Option Addr)(m c2:Nat)(ys:List Value)(d:Option Tmp)
  (h:qjh P N ops f k=some (e,sz,bs,.slice (o.map at0) n cap,.slice a2 m c2,d))
  (ho:Own w e sz o n cap xs) (hr:Rd w a2 ys) (hy:ys.length=m*sz) (h1:(ys.all fun c=>c.oneCell')=true) (hn2:a2=none->c2=0) (hb:n+m<=maxLen/\(n+m)*bs<=140737488355328)
  (hK:∀w' o' cap',Own w' e sz o' (n+m) cap' (xs++ys)->(o'=o\/ ∃g,o'=some g/\w.heap.size<=g)->(0<n+m-> ∃g,o'=some g)->Ch (fun b=>o=some b) w w'-> ∀a',Has N (pushd d (.slice (o'.map at0) (n+m) cap') f) a'->K a' w'):
  ∀a,Has N f a->wpOp P ops Q k K a w:=by
 intro a ha;have E:∀u∈ys,u.oneCell'=true:=fun u hu=>j3.1 h1 u hu;cases a2 with
 |none=>
  obtain rfl:=hr.1 rfl;obtain rfl:=hn2 rfl;have H:∀a',Has N (pushd d (.slice (o.map at0) n cap) f) a'->K a' w:=by
   have:=fun p:0<sz=>hK w o cap (by
    have hm:m=0:=by
     rcases jm m with l|l
     ·exact l
     ·have:=Nat.mul_pos l p;simp at hy;omega
    subst hm;simpa using ho) (.inl rfl) (fun hp=>by
     cases o with
     |none=>
      have hm:m=0:=by
       rcases jm m with l|l
       ·exact l
       ·have:=Nat.mul_pos l p;simp at hy;omega
      have:=(ho.2.2.2.1 rfl).1;omega
     |some g=>exact⟨g,rfl⟩) (Ch.refl _ _)
   have p:0<sz:=by
    unfold qjh at h;split at h
    ·split at h
     ·split at h
      ·split at h
       ·split at h
        ·split at h
         ·rename_i hz
          simp only[ij,ib]at h;rw[<-h.2.1];exact hz.2
         ·cases h
        ·cases h
       ·cases h
      ·cases h
     ·cases h
    ·cases h
   have hm:m=0:=by
    rcases jm m with l|l
    ·exact l
    ·have:=Nat.mul_pos l p;simp at hy;omega
   have I:=this p;subst hm;exact I
  refine qmV h ha (w':=w) (r:= .slice (o.map at0) n cap) (fun t ty i z ht hi _ hs _ _ p=>?_) H;have hm:m=0:=by
   rcases jm m with l|l
   ·exact l
   ·have:=Nat.mul_pos l p;simp at hy;omega
  subst hm;cases o with
  |none=>
   obtain⟨rfl,rfl⟩:=ho.2.2.2.1 rfl;have hx:xs=[]:=iy (by simpa using ho.1);subst hx;exact run_append_owned_none (P:=P) w 0 t ty e i sz ht hi _ 0 [] (World.ownsRow_nil w 0 e sz)
  |some g=>exact run_append_owned_none (P:=P) w 0 t ty e i sz ht hi _ n xs ho.owns
 |some ad=>
  have y:=hr.2 ad rfl;have J:∀(v':Value) (w':World),w'.ownsRow 0 e sz v' (n+m) (xs++ys)->w.grownBy w' (Value.ownBlock (.slice (o.map at0) n cap))->(v'= .slice none 0 0->o=none/\m=0)->(∀g,v'.ownBlock=some g->o=some g\/w.heap.size<=g)->
    ∀a',Has N (pushd d v' f) a'->K a' w':=by
   intro v' w' A hg L M;have hc:Ch (fun b=>o=some b) w w':=by
    refine(Ch.grown hg).mono fun i _ hi=>?_;cases o with
    |none=>cases hi
    |some g=>simpa[Value.ownBlock,at0,eq_comm]using hi
   rcases A.2 with⟨rfl,l⟩|⟨g,cap',B,rfl,_,O,R,S,T,U⟩
   ·obtain⟨rfl,rfl⟩:=L rfl
    have:=hK w' none 0 ⟨A.1,by omega,ir _,fun _=>⟨by omega,rfl⟩,fun _ e=>by cases e⟩ (.inl rfl) (fun hp=>by omega) hc;have q:n+0=0:=l;rw[q]at this;exact this
   ·refine hK w' (some g) cap' ⟨A.1,R,S,(fun e=>by cases e),fun g' e'=>?_⟩ ?_ (fun _=>⟨g,rfl⟩) hc
    ·obtain rfl:=ia e'
     refine⟨B.toList.drop ((n+m)*sz),?_,?_⟩
     ·rw[iG,jZ,T,Nat.sub_mul]
     ·show w'.heap[g]? =_
      rw[O,<-U,iV,jM]
    ·rcases M g rfl with h'|h'
     ·exact .inl h'.symm
     ·exact .inr ⟨g,rfl,h'⟩
  have run:∀t ty i z,P.underlying t=some (.slice e)->P.info? e=some i->i.zero=some z->i.size=sz->i.bytes=bs->z.cells.size=sz->0<sz->
    ∃v' w',(Builtin.append_ #[t,t] ty #[.slice (o.map at0) n cap,.slice (some ad) m c2]).run P w= .ok v' w'/\w'.ownsRow 0 e sz v' (n+m) (xs++ys)/\w.grownBy w' (Value.ownBlock (.slice (o.map at0) n cap))/\(v'= .slice none 0 0->o=none/\m=0)/\(∀g,v'.ownBlock=some g->o=some g\/w.heap.size<=g):=by
   intro t ty i z ht hi hz hs s v p;cases o with
   |none=>
    obtain⟨rfl,rfl⟩:=ho.2.2.2.1 rfl;have hx:xs=[]:=iy (by simpa using ho.1);subst hx;obtain⟨v',w',C,x,D,V⟩:=run_append_own (P:=P) w w.heap.size t ty e i z sz bs ht hi hz hs s v p (.slice none 0 0) 0 [] (World.ownsRow_nil w _ e sz) ad m c2 ys hy y E hb.1 hb.2 (iE _);refine⟨v',w',C,⟨x.1,?_⟩,D,fun q=>⟨rfl,(V.1 q).2⟩,fun g hg=> .inr (x.lt g hg).1⟩;rcases x.2 with W|⟨g,c,B,X,_,Y⟩
    ·exact .inl W
    ·exact .inr ⟨g,c,B,X,ir _,Y⟩
   |some g=>
    by_cases hroom:n+m<=cap
    ·obtain⟨w',C,x,D⟩:=run_append_fits (P:=P) w 0 t ty e i sz ht hi hs g n cap xs ho.owns ad m c2 ys hy y E hroom
     exact⟨_,w',C,x,D,fun q=>(by simp at q),fun g' hg=> .inl (by simpa[Value.ownBlock]using hg)⟩
    ·have Z:∀j u,xs[j]? =some u->w.cell? ((⟨g,0,none⟩:Addr).add j)=some u:=ho.rd.2 _ rfl
     subst hs;subst s;have a0:=grownCap_ge w (n+m) cap e;have a1:grownCap w (n+m) cap e<=maxLen:=grownCap_le_maxLen w (n+m) cap e hb.1;have ac:n+m<=9223372036854775807:=by have h:=hb.1;simp only[maxLen]at h;omega
     have hr':=run_append_grow (P:=P) w t ty e i z ht hi hz ⟨g,0,none⟩ n cap xs ho.1 Z ad m c2 ys hy y (by omega) (by omega) (growslice_fits (by omega) hb.2);have F:(xs++ys).length=(n+m)*i.size:=by rw[hJ,ho.1,hy,Nat.add_mul]
     refine⟨_,_,hr',⟨F,.inr ⟨w.heap.size,_,_,rfl,ir _,heap_alloc_new w.drew _,a0,a1,?_,?_⟩⟩,⟨rfl,rfl,rfl,by simp,fun k hk _=>heap_alloc_old w.drew _ k hk⟩,(fun q=>by simp at q),fun g' hg=> .inr ?_⟩
     ·simp only[Array.size_append,List.size_toArray,size_zeroCells,v,ho.1,hy,<-Nat.add_mul]
      congr 1;omega
     ·simp only[Array.toList_append,ie]
      rw[<-ie,<-F];exact jU
     ·have:w.heap.size=g':=by simpa[Value.ownBlock]using hg
      omega
  have h':=h;unfold qjh at h';split at h'
  ·rename_i ae tys d' a3
   split at h'
   ·rename_i t t' u' v' ht hv
    split at h'
    ·rename_i a4
     subst a4;split at h'
     ·rename_i e' hu
      split at h'
      ·rename_i af z ag hs hz s
       split at h'
       ·rename_i v
        simp only[ij,ib]at h';obtain⟨rfl,rfl,rfl,rfl,rfl,rfl⟩:=h';obtain⟨i,hi,p⟩:=qcI hs;rw[hi]at hz s;have a5:tys= #[t,t]:=by apply js.1;simpa using ht
        refine qau a3 ha fun o' G hd a6=>?_;have he:=qbO ha hv;obtain⟨v',w',a7,q1,q2,q3,q4⟩:=run t o'.type i z hu hi (by simpa using hz) p (by simpa using s) v.1 v.2;have:(execOp a.eval o').run P w= .ok (.value v') w':=by
         rw[a5]at G;simp[execOp,G,resolve,he,invoke,builtin,a7]
        simp only[Oper.wp,this,Oper.upon];rw[hd];exact J v' w' q1 q2 q3 q4 _ (ha.pushd a6 v')
       ·cases h'
      ·cases h'
     ·cases h'
    ·cases h'
   ·cases h'
  ·cases h'
theorem qaE (e:TypeId)(sz bs:Nat)(o:Option Nat)(n cap:Nat)(xs:List Value)(a2:Option Addr)(m c2:Nat)(ys:List Value)(d:Option Tmp)(t:Nat)(ht:n+m=t)(zs:List Value)(hz:xs++ys=zs)
  (h:qjh P N ops f k=some (e,sz,bs,.slice (o.map at0) n cap,.slice a2 m c2,d))
  (ho:Own w e sz o n cap xs) (hr:Rd w a2 ys) (hy:ys.length=m*sz) (h1:(ys.all fun c=>c.oneCell')=true) (hn2:a2=none->c2=0) (hb:t<=maxLen/\t*bs<=140737488355328)
  (hK:∀w' o' cap',Own w' e sz o' t cap' zs->(o'=o\/ ∃g,o'=some g/\w.heap.size<=g)->(0<t-> ∃g,o'=some g)->Ch (fun b=>o=some b) w w'-> ∀a',Has N (pushd d (.slice (o'.map at0) t cap') f) a'->K a' w'):
  ∀a,Has N f a->wpOp P ops Q k K a w:=by
 subst ht;subst hz;exact e_app e sz bs o n cap xs a2 m c2 ys d h ho hr hy h1 hn2 hb hK
def qhv (P:Program)(N:Nat)(ops:Array Oper)(f:Fr)(k:Nat):Option (Nat×Value×Value×Option Tmp):=
 match qfP N ops f k with
 |some (.call ⟨.builtin .copy,args,tys⟩,d)=>match tys.toList,evs f args.toList with
  |[t,_],some [u,v]=>match P.underlying t with
    |some (.slice e)=>match qfj P e with
     |some sz=>some (sz,u,v,d)
     |none=>none
    |_=>none
  |_,_=>none
 |_=>none
theorem e_copy (sz:Nat)(b o dl dc:Nat)(a2:Option Addr)(sl sc:Nat)(ys:List Value){cs:List Value}{T:TypeId}(d:Option Tmp)
  (h:qhv P N ops f k=some (sz,.slice (some ⟨b,o,none⟩) dl dc,.slice a2 sl sc,d))
  (hb:Blk w b cs T) (hr:Rd w a2 ys) (hy:ys.length=min sl dl*sz) (h1:(ys.all fun c=>c.oneCell')=true) (hfit:o+ys.length<=cs.length)
  (hK:∀w',Blk w' b (put cs o ys) T->Ch (fun k=>k=b) w w'-> ∀a',Has N (pushd d (.int .i64 (min sl dl:Nat)) f) a'->K a' w'):
  ∀a,Has N f a->wpOp P ops Q k K a w:=by
 intro a ha;have l:∀u∈ys,u.oneCell'=true:=fun u hu=>j3.1 h1 u hu;unfold qhv at h;split at h
 ·rename_i x tys d' ho
  split at h
  ·rename_i t t' u' v' ht hv
   split at h
   ·rename_i e hu
    split at h
    ·rename_i g hs
     simp only[ij,ib]at h;obtain⟨rfl,rfl,rfl,rfl⟩:=h;obtain⟨i,hi,m⟩:=qcI hs;have n:tys= #[t,t']:=by apply js.1;simpa using ht
     refine qau ho ha fun o' j hd p=>?_;have he:=qbO ha hv;have q:(Builtin.firstCells g (min sl dl) (.slice a2 sl sc)).run P w= .ok ys.toArray w:=by
      cases a2 with
      |none=>
       obtain rfl:=hr.1 rfl;simp[Builtin.firstCells]
      |some ad=>exact run_firstCells_some (P:=P) w g (min sl dl) ad sl sc ys hy (hr.2 ad rfl)
     have r:=run_storeCells_at P b o T ys 0 cs.toArray w hb (by simpa using hfit) l;have s:(Builtin.copy_ #[t,t'] o'.type #[.slice (some ⟨b,o,none⟩) dl dc,.slice a2 sl sc]).run P w= .ok (.int .i64 (min sl dl:Nat)) (w.setRow b (put cs o ys).toArray):=by
      have v:Nat.min sl dl=min sl dl:=rfl;simp[Builtin.copy_,run_underlying hu,Builtin.lenOf,sizeOf,typeInfo,hi,m,v,q,goInt];rw[show(storeCells ⟨b,o,none⟩ ys).run P w=_ from r];simp[put]
     have:(execOp a.eval o').run P w= .ok (.value (.int .i64 (min sl dl:Nat))) (w.setRow b (put cs o ys).toArray):=by
      rw[n]at j;simp[execOp,j,resolve,he,invoke,builtin,s]
     simp only[Oper.wp,this,Oper.upon];rw[hd];exact hK _ (hb.set _) (Ch.setRow _ _ _) _ (ha.pushd p _)
    ·cases h
   ·cases h
  ·cases h
 ·cases h
theorem qdm (sz:Nat)(b o dl dc:Nat)(a2:Option Addr)(sl sc:Nat)(ys:List Value){cs:List Value}{T:TypeId}(d:Option Tmp)(t:Nat)(ht:min sl dl=t)
  (h:qhv P N ops f k=some (sz,.slice (some ⟨b,o,none⟩) dl dc,.slice a2 sl sc,d))
  (hb:Blk w b cs T) (hr:Rd w a2 ys) (hy:ys.length=t*sz) (h1:(ys.all fun c=>c.oneCell')=true) (hfit:o+ys.length<=cs.length)
  (hK:∀w',Blk w' b (put cs o ys) T->Ch (fun k=>k=b) w w'-> ∀a',Has N (pushd d (.int .i64 (t:Nat)) f) a'->K a' w'):
  ∀a,Has N f a->wpOp P ops Q k K a w:=by
 subst ht;exact e_copy sz b o dl dc a2 sl sc ys d h hb hr hy h1 hfit hK
def makeAt (P:Program)(N:Nat)(ops:Array Oper)(f:Fr)(k:Nat):Option (TypeId×Nat×Nat×Int×Int×Option Tmp):=
 match qfP N ops f k with
 |some (.makeSlice t l c,d)=>match ev f l,ev f c with
  |some (.int _ x),some (.int _ y)=>match P.underlying t with
    |some (.slice e)=>match qfj P e,(P.info? e).bind (·.zero),(P.info? e).map (·.bytes)with
     |some sz,some _,some bs=>some (e,sz,bs,x,y,d)
     |_,_,_=>none
    |_=>none
  |_,_=>none
 |_=>none
theorem e_make (e:TypeId)(sz bs n:Nat)(x y:Int)(d:Option Tmp)(h:makeAt P N ops f k=some (e,sz,bs,x,y,d))(hx:x=(n:Int))(hy:y=(n:Int))(hb:bs*n<=281474976710656/\n<=maxLen)
  (hK:∀w' b zs,b=w.heap.size->Own w' e sz (some b) n n zs->Ch (fun _=>False) w w'-> ∀a',Has N (pushd d (.slice (some ⟨b,0,none⟩) n n) f) a'->K a' w'):
  ∀a,Has N f a->wpOp P ops Q k K a w:=by
 intro a ha;subst hx;subst hy;unfold makeAt at h;split at h
 ·rename_i t l c d' ho
  split at h
  ·rename_i kl x' kc y' hl hc
   split at h
   ·rename_i e' hu
    split at h
    ·rename_i m z q hs hz o
     simp only[ij,ib]at h;obtain⟨rfl,rfl,rfl,rfl,rfl,rfl⟩:=h;obtain⟨i,hi,r⟩:=qcI hs;rw[hi]at hz o;have hbs':i.bytes=q:=by simpa using o
     refine qau ho ha fun o' s hd u=>?_;obtain⟨w',v,p,hg⟩:=run_make_full (P:=P) w 0 t e' i z m hu hi (by simpa using hz) r kl kc n (by rw[hbs'];exact hb.1) hb.2 (ir _);have:(execOp a.eval o').run P w= .ok (.value (.slice (some ⟨w.heap.size,0,none⟩) n n)) w':=by
      simp[execOp,s,qC ha hl,qC ha hc,v]
     simp only[Oper.wp,this,Oper.upon];rw[hd];refine hK w' w.heap.size (madeCells z.cells (n*m)).toList rfl ?_ ((Ch.grown hg).mono fun i _ hi=>by cases hi) _ (ha.pushd u _);refine⟨p.1,iE _,hb.2,(fun e=>by cases e),fun g e=>⟨[],by simp,?_⟩⟩;obtain rfl:=ia e;rcases p.2 with⟨j,_⟩|⟨g,D,E,j,_,A,F,_,B,C⟩
     ·simp at j
     ·simp only[Value.slice.injEq,ij,Addr.mk.injEq,and_true,true_and]at j
      obtain⟨rfl,rfl⟩:=j;show w'.heap[_]? =_;rw[A,iH,<-C,je (by rw[jZ,B];exact iE _),jM]
    ·cases h
   ·cases h
  ·cases h
 ·cases h
def textAt (P:Program)(N:Nat)(ops:Array Oper)(f:Fr)(k:Nat):Option (IntKind×Value×Option Tmp):=
 match qfP N ops f k with
 |some (.convert s t x,d)=>match P.underlying s,P.underlying t,ev f x with
  |some (.slice e),some .string,some v=>match P.underlying e with
   |some (.int .u8)=>some (.u8,v,d)
   |some (.int .i32)=>some (.i32,v,d)
   |_=>none
  |_,_,_=>none
 |_=>none
def qf (ns:List Int):ByteArray:=ns.foldl (fun r n=>r.push (UInt8.ofNat n.toNat)) ByteArray.empty
theorem qE (a2:Option Addr)(n c:Nat)(ns:List Int)(d:Option Tmp)(h:textAt P N ops f k=some (.u8,.slice a2 n c,d))(hr:Rd w a2 (ns.map (Value.int .u8)))(hn:ns.length=n)
  (hK:∀a',Has N (pushd d (.string (qf ns)) f) a'->K a' w):∀a,Has N f a->wpOp P ops Q k K a w:=by
 intro a ha;unfold textAt at h;split at h
 ·rename_i s t x d' ho
  split at h
  ·rename_i e v hs ht hx
   split at h
   ·rename_i he
    simp only[ij,ib,true_and]at h;obtain⟨rfl,rfl⟩:=h;refine qau ho ha fun o' b hd g=>?_;have hc:=run_convert_bytes_string (P:=P) w s t e a2 n c hs he ht;have i:(Conv.bytesToString (.slice a2 n c)).run P w= .ok (.string (qf ns)) w:=by
     cases a2 with
     |none=>
      have j:=hr.1 rfl;obtain rfl:ns=[]:=by simpa using j
      simp[Conv.bytesToString,qf]
     |some ad=>
      refine run_bytesToString (P:=P) w ad n c ns ?_;have:=run_loadCells_list (P:=P) w ad (ns.map (Value.int .u8)) (hr.2 ad rfl);rwa[hZ,hn]at this
    have:(execOp a.eval o').run P w= .ok (.value (.string (qf ns))) w:=by
     simp[execOp,b,qC ha hx,hc,i]
    simp only[Oper.wp,this,Oper.upon];rw[hd];exact hK _ (ha.pushd g _)
   ·simp at h
   ·cases h
  ·cases h
 ·cases h
end
section
variable {P:Program}{N:Nat}{ops:Array Oper}{Q:Exit->Act->World->Prop}{f:Fr}{k:Nat}{K:Act->World->Prop}{w:World}
def bs0At (P:Program)(N:Nat)(ops:Array Oper)(f:Fr)(k:Nat):Option (TypeId×Option Tmp):=
 match qfP N ops f k with
 |some (.buildSlice t 0 parts,d)=>match parts.toList,P.underlying t with
  |[],some (.slice e)=>match qfj P e with
   |some _=>some (e,d)
   |none=>none
  |_,_=>none
 |_=>none
theorem e_bs0 (e:TypeId)(d:Option Tmp)(h:bs0At P N ops f k=some (e,d))
  (hK:∀w' b,b=w.heap.size->w'.heap.size=w.heap.size+1->Blk w' b [] e->Ch (fun _=>False) w w'-> ∀a',Has N (pushd d (.slice (some ⟨b,0,none⟩) 0 0) f) a'->K a' w'):∀a,Has N f a->wpOp P ops Q k K a w:=by
 intro a ha;unfold bs0At at h;split at h
 ·rename_i t c d' ho
  split at h
  ·rename_i e' hp hu
   split at h
   ·rename_i sz hs
    simp only[ij,ib]at h;obtain⟨rfl,rfl⟩:=h;refine qau ho ha fun o' g hd i=>?_;have j:c= #[]:=by apply js.1;simpa using hp
    have:(execOp a.eval o').run P w= .ok (.value (.slice (some ⟨w.heap.size,0,none⟩) 0 0)) (w.alloc (.cells #[] e' (0,0))):=by
     simp[execOp,g,j,Instr.buildSlice,qL hu,qbr hs,Instr.fill,newRow];rw[show Array.range 0= #[]from Array.eq_empty_of_size_eq_zero (by simp),Array.map_empty]
    simp only[Oper.wp,this,Oper.upon];rw[hd];exact hK _ _ rfl (by show(w.heap.push _).size=_;simp) (Blk.new w [] e') (Ch.alloc _ _ _) _ (ha.pushd i _)
   ·cases h
  ·cases h
 ·cases h
end
theorem Rd.all {w:World}{b:Nat}{cs:List Value}{T:TypeId}(h:Blk w b cs T):Rd w (some ⟨b,0,none⟩) cs:=Rd.blk h fun j _=>by rw[iJ]
theorem qM {w w':World}(h:Ch (fun b=>(none:Option Nat)=some b) w w'):Ch (fun _=>False) w w':=h.mono fun _ _ h=>by cases h
theorem qif {w w':World}{b:Nat}(h:Ch (fun k=>some b=some k) w w'):Ch (fun k=>k=b) w w':=h.mono fun _ _ h=>(ia h).symm
theorem qbs {w:World}{o:Option Nat}{g y:Nat}(h:some g=o\/ ∃g',some g=some g'/\w.heap.size<=g')(hy:o≠some y)(hlt:y<w.heap.size):y≠g:=by
 rintro rfl;rcases h with h|⟨g',h,h'⟩
 ·exact hy h.symm
 ·have:=ia h;omega
section
variable {P:Program}{N:Nat}{Q:Exit->Act->World->Prop}{f:Fr}{w:World}
theorem x_label {l:Nat}(h:∀a,Has N f a->Q .normal a w):WC P N Q (.label l) f w:=fun a ha=>wp_label (h a ha)
theorem x_goto {l:Nat}(h:∀a,Has N f a->Q (.goto l) a w):WC P N Q (.goto l) f w:=fun a ha=>wp_goto (h a ha)
theorem x_scope {c rest:Code}(l:Nat)(fJ:Fr)(IJ:World->Prop)(hf:findLabel c l=some rest)
  (first:WC P N (Exit.jump l (fun a w=>Has N fJ a/\IJ w) Q) c f w) (pass:∀w,IJ w->WC P N (Exit.jump l (fun _ _=>False) Q) rest fJ w):WC P N Q (.scope c) f w:=by
 intro a ha;refine wp_scope_jumps l (fun a w=>Has N fJ a/\IJ w) (fun _ _=>0) hf (first a ha) fun a w ⟨ha,hI⟩=>wp_mono (pass w hI a ha) fun e a' w' h=>?_;cases e<;>first|exact h|exact absurd h.2 (by simp)
theorem qaA {l:Nat}{J:Act->World->Prop}(h:∀a,Has N f a->Q .ret a w):∀a,Has N f a->Exit.jump l J Q .ret a w:=h
theorem qok {l:Nat}{J:World->Prop}(h:J w):∀a,Has N f a->Exit.jump l (fun a w=>Has N f a/\J w) Q (.goto l) a w:=fun _ ha=>⟨rfl,ha,h⟩
end
def qol (P:Program)(f:Fr):List ResultVar->List Value->Option (List Value×List (World->Prop))
 |[],_=>some ([],[])
 | .tmp t::rs,lv=>match get f t,qol P f rs lv with
  |some v,some (vs,cs)=>some (v::vs,cs)
  |_,_=>none
 | .cell t ty::rs,v::lv=>match get f t,qol P f rs lv with
  |some (.pointer (some ⟨b,o,none⟩)),some (vs,cs)=>match loadC P ty b o v with
   |some c=>some (v::vs,c++cs)
   |none=>none
  |_,_=>none
 | .cell _ _::_,[]=>none
theorem qfY {P:Program}{N:Nat}{f:Fr}{a:Act}{w:World}(ha:Has N f a)(g:ResultVar->Sem Value)(g1:∀t,g (.tmp t)=pure (a.tmps.getD t undef))(g2:∀x t,g (.cell x t)=(do loadVar t (<-asAddr (a.tmps.getD x undef)))):
  ∀(rs:List ResultVar) (lv vs:List Value) (cs:List (World->Prop)),qol P f rs lv=some (vs,cs)->qc6 cs w->(rs.mapM g).run P w= .ok vs w
 |[],_,vs,cs,h,_=>by
  simp only[qol,ij,ib]at h
  rw[<-h.1];simp
 | .tmp t::rs,lv,vs,cs,h,hc=>by
  unfold qol at h
  split at h
  ·rename_i v vs' cs' hv hr
   simp only[ij,ib]at h
   obtain⟨rfl,rfl⟩:=h
   have ih:=qfY ha g g1 g2 rs lv vs' cs' hr hc
   have e:=ha.get t v hv
   simp only[List.mapM_cons,Sem.run_bind,g1,Sem.run_pure,Result.andThen_ok,ih,e]
  ·cases h
 | .cell t ty::rs,[],vs,cs,h,_=>by simp[qol]at h
 | .cell t ty::rs,v::lv,vs,cs,h,hc=>by
  unfold qol at h
  split at h
  ·rename_i b o vs' cs' hv hr
   split at h
   ·rename_i c hl
    simp only[ij,ib]at h
    obtain⟨rfl,rfl⟩:=h
    rw[AllC_append]at hc
    have ih:=qfY ha g g1 g2 rs lv vs' cs' hr hc.2
    have e:=ha.get t _ hv
    have hl':=qja (P:=P) hl hc.1
    have hone:(g (.cell t ty)).run P w= .ok v w:=by
     rw[g2];simp only[Sem.run_bind,e,asAddr,Sem.run_pure,Result.andThen_ok,hl']
    simp only[List.mapM_cons,Sem.run_bind,hone,Sem.run_pure,Result.andThen_ok,ih]
   ·cases h
  ·cases h
theorem x_done {P:Program}{N:Nat}{fn:Func}{R:Ending->World->Prop}{f:Fr}{w:World}(vs lv:List Value){cs:List (World->Prop)}(hr:qol P f fn.results.toList lv=some (vs,cs))(h2:Nat.ble 2 vs.length=true)(hc:qc6 cs w)
  (h:R (.returned (.tuple vs.toArray)) w):∀a,Has N f a->bodyPost P fn R .ret a w:=by
 intro a ha;refine⟨ha.defers,.tuple vs.toArray,?_,h⟩;have hn:¬vs.length=1:=by have:=qc2 h2;omega
 unfold results;rw[<-jM (xs:=fn.results)];simp only[List.mapM_toArray,Sem.run_bind,Sem.run_map];rw[qfY ha _ (fun _=>rfl) (fun _ _=>rfl) fn.results.toList lv vs cs hr hc];simp[hn]
end Go.Proofs.YtjjcnhgpccancaaGreatDoor.X

namespace Go.Proofs.YtjjcnhgpccancaaGreatDoor.X
open Go Go.RowKit
theorem iZ {α:Type}{Q P:α->Prop}(a:α)(_:Q a)(h:P a):P a:=h
theorem eZ {α:Type}{Q P:α->Prop}(a:α)(_:Q a)(h:False):P a:=h.elim
inductive Pf (w:World):List (World->Prop)->List Value->Prop
 |z:Pf w [] []
 |l {b o:Nat} {v:Value} {cs:List (World->Prop)} {lv:List Value} (h:w.cell? ⟨b,o,none⟩=some v) (t:Pf w cs lv):Pf w (cX b o v::cs) (v::lv)
 |e {cs:List (World->Prop)} {lv:List Value} (t:Pf w cs lv):Pf w cs (.agg (List.toArray [])::lv)
 |m {b o:Nat} {v:Value} {l:List Value} {cs:List (World->Prop)} {lv:List Value} (h:w.cell? ⟨b,o,none⟩=some v) (t:Pf w cs (.agg l.toArray::lv)):Pf w (cX b o v::cs) (.agg (v::l).toArray::lv)
 |a {b o:Nat} {vs:List Value} {cs:List (World->Prop)} {lv:List Value} (h:qc6 (qcs b o vs) w) (t:Pf w cs lv):Pf w (qcs b o vs++cs) (.agg vs.toArray::lv)
 |p {q:Prop} {cs:List (World->Prop)} {lv:List Value} (h:q) (t:Pf w cs lv):Pf w ((fun _=>q)::cs) lv
theorem Pf.all {w:World}{cs:List (World->Prop)}{lv:List Value}(h:Pf w cs lv):qc6 cs w:=by
 induction h with
 |z=>trivial
 |l h _ ih=>exact⟨h,ih⟩
 |e _ ih=>exact ih
 |m h _ ih=>exact⟨h,ih⟩
 |a h _ ih=>exact AllC_append.2 ⟨h,ih⟩
 |p h _ ih=>exact⟨h,ih⟩
theorem Pf.q6 {w:World}{cs:List (World->Prop)}{lv:List Value}(n:Int)(t:Pf w cs lv)(h: -9223372036854775808<=n:=by omega)(h':n<=9223372036854775807:=by omega):Pf w ((fun _=>InR .i64 n)::cs) lv:= .p (in64 h h') t
theorem Pf.q3 {w:World}{cs:List (World->Prop)}{lv:List Value}(n:Int)(t:Pf w cs lv)(h: -2147483648<=n:=by omega)(h':n<=2147483647:=by omega):Pf w ((fun _=>InR .i32 n)::cs) lv:= .p (in32 h h') t
theorem Pf.i {w:World}{cs:List (World->Prop)}{lv:List Value}(i:Int)(n:Nat)(t:Pf w cs lv)(h:0<=i:=by omega)(h':i<n:=by omega):Pf w ((fun _=>0<=i/\i<n)::cs) lv:= .p ⟨h,h'⟩ t
theorem Pf.j {w:World}{cs:List (World->Prop)}{lv:List Value}(i:Int)(n:Nat)(t:Pf w cs lv)(h:0<=i:=by omega)(h':i<=n:=by omega):Pf w ((fun _=>0<=i/\i<=n)::cs) lv:= .p ⟨h,h'⟩ t
theorem Blk.cs {w:World}{b:Nat}{cs:List Value}{T:TypeId}(h:Blk w b cs T)(o n:Nat)(hn:Nat.ble (o+n) cs.length=true:=by kernel_rfl):qc6 (qcs b o ((cs.drop o).take n)) w:=by
 have a:∀(l:List Value) (o:Nat),(∀j v,l[j]? =some v->cs[o+j]? =some v)->qc6 (qcs b o l) w:=by
  intro l
  induction l with
  |nil=>exact fun _ _=>trivial
  |cons v l ih=>exact fun o hl=>⟨by show w.cell? ⟨b,o,none⟩=some v;rw[h.cell];exact hl 0 v rfl,ih (o+1) fun j u hj=>by rw[show o+1+j=o+(j+1) by omega];exact hl (j+1) u (by simpa using hj)⟩
 refine a _ o fun j v hj=>?_;rw[j5]at hj;split at hj
 ·rwa[jg]at hj
 ·cases hj
theorem Blk.c {w:World}{b:Nat}{cs:List Value}{T:TypeId}(h:Blk w b cs T)(i:Nat)(hi:Nat.blt i cs.length=true:=by kernel_rfl):w.cell? ⟨b,i,none⟩=some (cs.getD i undef):=by
 have hi':i<cs.length:=by simpa[Nat.blt_eq]using hi
 rw[h.cell,ik,ig hi',Option.getD_some]
theorem Blk.to {w:World}{b:Nat}{cs cs':List Value}{T:TypeId}(h:Blk w b cs T)(e:cs=cs'):Blk w b cs' T:=e▸h
theorem qg {w w':World}{B:Nat->Prop}(h:Ch B w w'){b o:Nat}{v:Value}(hc:w.cell? ⟨b,o,none⟩=some v)(hn:¬B b):w'.cell? ⟨b,o,none⟩=some v:=by
 have a:b<w.heap.size:=by
  rcases iL b w.heap.size with h'|h'
  ·exact h'
  ·simp[World.cell?,jk h']at hc
 unfold World.cell? at hc⊢;rw[h.block b a hn];exact hc
theorem qap {w u:World}{B:Nat->Prop}{b:Nat}(hc:Ch B w u):∀{vs:List Value} {o:Nat},qc6 (qcs b o vs) w-> ¬B b->qc6 (qcs b o vs) u
 |[],_,_,_=>trivial
 |_::_,_,h,hn=>⟨qg hc h.1 hn,qap hc h.2 hn⟩
def nx (P:Program)(N:Nat)(ops:Array Oper)(alt:List Nat)(k k':Nat)(f:Fr)(lv:List Value):Fr:=
 match qod P N ops alt (List.range' k (k'-k)) f lv with
 |some (f',_)=>f'
 |none=>[]
def cx (P:Program)(N:Nat)(ops:Array Oper)(alt:List Nat)(k k':Nat)(f:Fr)(lv:List Value):Option (List (World->Prop)):=
 if Nat.ble k k'&&Nat.ble k' ops.size then
  match qod P N ops alt (List.range' k (k'-k)) f lv with
  |some (_,cs)=>some cs
  |none=>none
 else none
section
variable {P:Program}{N:Nat}{ops:Array Oper}{Q:Exit->Act->World->Prop}{w:World}{f:Fr}
theorem yp {cs:List (World->Prop)}{lv:List Value}{k:Nat}(k':Nat)(alt:List Nat)(hp:Pf w cs lv)(hn:WS P N ops Q k' (nx P N ops alt k k' f lv) w)
  (h:cx P N ops alt k k' f lv=some cs:=by kernel_rfl):WS P N ops Q k f w:=by
 intro a ha;unfold cx at h;split at h
 ·rename_i hk
  rw[ii,Nat.ble_eq,Nat.ble_eq]at hk;split at h
  ·rename_i f1 c hr
   obtain rfl:=ia h;have e:List.range' k (ops.size-k)=List.range' k (k'-k)++List.range' k' (ops.size-k'):=by
    have:=List.range'_append_1 (s:=k) (m:=k'-k) (n:=ops.size-k');rw[show k+(k'-k)=k' by omega,show k'-k+(ops.size-k')=ops.size-k by omega]at this;exact this.symm
   rw[e];refine qkK _ hr ha hp.all fun a' b=>hn a' ?_;simp only[nx,hr];exact b
  ·cases h
 ·cases h
theorem yf {cs:List (World->Prop)}{lv:List Value}{k:Nat}{f':Fr}(k':Nat)(alt ks:List Nat)(hp:Pf w cs lv)(hn:WS P N ops Q k' f' w)
  (h:segv P N ops alt k k' ks f lv=some (f',cs):=by kernel_rfl):WS P N ops Q k f w:=x_pure k' alt ks lv h hp.all hn
theorem qV {c:Code}{f':Fr}(ks:List Nat)(h:WC P N Q c f' w)(hk:keep ks f=f':=by kernel_rfl):WC P N Q c f w:=x_keep ks hk h
theorem dkeep {kill:List Nat}{F:World->Prop}{done:List Nat}{f':Fr}(ks:List Nat)(h:WD P N ops Q kill F done f' w)(hk:keep ks f=f':=by kernel_rfl):WD P N ops Q kill F done f w:=fun a ha=>h a (by subst hk;exact ha.keep ks)
def SQ (P:Program)(y:Code)(Q:Exit->Act->World->Prop):Exit->Act->World->Prop:=Exit.then (fun a w=>y.wp P Q a w) Q
theorem ys {x y:Code}(h:WC P N (SQ P y Q) x f w):WC P N Q (.seq x y) f w:=fun a ha=>wp_seq (h a ha)
theorem ysr {y:Code}{id:Nat}(h:WS P N ops (SQ P y Q) 0 f w):WC P N Q (.seq (.region id ops false) y) f w:=ys (q7 h)
theorem nS {y:Code}(h:WC P N Q y f w):∀a,Has N f a->SQ P y Q .normal a w:=h
theorem nB {id:Nat}(h:∀a,Has N f a->Q .normal a w):∀a,Has N f a->Exit.inBlock id Q .normal a w:=h
theorem rS {y:Code}(h:∀a,Has N f a->Q .ret a w):∀a,Has N f a->SQ P y Q .ret a w:=h
theorem rB {id:Nat}(h:∀a,Has N f a->Q .ret a w):∀a,Has N f a->Exit.inBlock id Q .ret a w:=h
theorem eS {y:Code}{id:Nat}(h:∀a,Has N f a->Q (.exit id) a w):∀a,Has N f a->SQ P y Q (.exit id) a w:=h
theorem eB {id id':Nat}(h:∀a,Has N f a->Q (.exit id) a w)(hne:Nat.beq id id'=false:=by kernel_rfl):∀a,Has N f a->Exit.inBlock id' Q (.exit id) a w:=fun a ha=>by
 show(if id=id' then Q .normal a w else Q (.exit id) a w)
 rw[if_neg (fun e=>by subst e;rw[Nat.beq_refl]at hne;cases hne)];exact h a ha
theorem gS {y:Code}{l:Nat}(h:∀a,Has N f a->Q (.goto l) a w):∀a,Has N f a->SQ P y Q (.goto l) a w:=h
theorem yE {k:Nat}(h:∀a,Has N f a->Q .normal a w)(hk:ops.size=k:=by kernel_rfl):WS P N ops Q k f w:=x_end hk h
theorem ye {k:Nat}{y:Code}(h:WC P N Q y f w)(hk:ops.size=k:=by kernel_rfl):WS P N ops (SQ P y Q) k f w:=x_end hk h
theorem yq {k:Nat}(k':Nat)(hn:WS P N ops Q k' (nx P N ops [] k k' f []) w)(h:cx P N ops [] k k' f []=some []:=by kernel_rfl):WS P N ops Q k f w:=yp k' [] .z hn h
theorem yz {k:Nat}{y:Code}(k':Nat)(hn:WC P N Q y (nx P N ops [] k k' f []) w)(h:cx P N ops [] k k' f []=some []:=by kernel_rfl)(hk:ops.size=k':=by kernel_rfl):WS P N ops (SQ P y Q) k f w:=yq k' (ye hn hk) h
theorem yx {y:Code}{id:Nat}(k':Nat)(hn:WC P N Q y (nx P N ops [] 0 k' f []) w)(h:cx P N ops [] 0 k' f []=some []:=by kernel_rfl)(hk:ops.size=k':=by kernel_rfl):WC P N Q (.seq (.region id ops false) y) f w:=ysr (yz k' hn h hk)
theorem yk {y:Code}(h:WC P N Q y f w):WC P N (SQ P y Q) .skip f w:=qo h
structure Rf (b:Bool)(p q:Prop):Prop where
 t:b=true->p
 f:b=false->q
theorem rE (a b:Int):Rf (a==b) (a=b) (a≠b):=⟨iU.1,jt.1⟩
theorem rI (a b:Int):Rf (a !=b) (a≠b) (a=b):=⟨bne_iff_ne.1,bne_eq_false_iff_eq.1⟩
theorem rL (a b:Int):Rf (decide (a<b)) (a<b) (¬a<b):=⟨iK,jl⟩
theorem rM (a b:Int):Rf (decide (a<=b)) (a<=b) (¬a<=b):=⟨iK,jl⟩
theorem rY (b:Bool):Rf b (b=true) (b=false):=⟨id,id⟩
theorem rN {b:Bool}{p q:Prop}(h:Rf b p q):Rf (!b) q p:=⟨fun e=>h.f (not_t e),fun e=>h.t (not_f e)⟩
theorem yc {c:Operand}{x y:Code}{b:Bool}{p q:Prop}(r:Rf b p q)(ht:p->WC P N Q x f w)(hf:q->WC P N Q y f w)(hc:ev f c=some (.bool b):=by kernel_rfl):WC P N Q (.cond c x y) f w:=x_cond hc (fun h=>ht (r.t h)) fun h=>hf (r.f h)
theorem yct {c:Operand}{x y:Code}(ht:WC P N Q x f w)(hc:ev f c=some (.bool true):=by kernel_rfl):WC P N Q (.cond c x y) f w:=x_cond_t hc ht
theorem ycf {c:Operand}{x y:Code}(hf:WC P N Q y f w)(hc:ev f c=some (.bool false):=by kernel_rfl):WC P N Q (.cond c x y) f w:=x_cond_f hc hf
def LpN (P:Program)(c:Code)(Q:Exit->Act->World->Prop):Nat->Act->World->Prop
 |0,_,_=>False
 |n+1,a,w=>c.wp P (Exit.then (LpN P c Q n) Q) a w
theorem LpN.loop {P:Program}{c:Code}{Q:Exit->Act->World->Prop}{n:Nat}{a:Act}{w:World}(h:LpN P c Q n a w):(Code.loop c).wp P Q a w:=by
 refine wp_loop_ghost (fun m a w=>LpN P c Q m a w) n h fun m a w h=>?_;cases m with
 |zero=>exact h.elim
 |succ m=>
  refine Code.wp_mono (fun e a w q=>?_) h;cases e<;>first|exact q|exact⟨m,Nat.lt_succ_self m,q⟩
theorem yU {c:Code}(n:Nat)(h:∀a,Has N f a->LpN P c Q n a w):WC P N Q (.loop c) f w:=fun a ha=>(h a ha).loop
theorem yU1 {c:Code}{n:Nat}(h:WC P N (Exit.then (LpN P c Q n) Q) c f w):∀a,Has N f a->LpN P c Q (n+1) a w:=h
theorem nU {c:Code}{n:Nat}(h:∀a,Has N f a->LpN P c Q n a w):∀a,Has N f a->Exit.then (LpN P c Q n) Q .normal a w:=h
def setbs (c:Bool)(f:Fr):List Nat->Fr
 |[]=>f
 |s::ss=>(s,.bool c)::setbs c f ss
theorem Has.setbs {a:Act}{b c:Bool}(ha:Has N f a)(e:b=c):∀{ss:List Nat},ss.map (X.get f)=ss.map (fun _=>some (.bool b))->Has N (X.setbs c f ss) a
 |[],_=>ha
 |s::ss,h=>by
  rw[k5,k5,List.cons.injEq]at h
  have ih:=Has.setbs ha e h.2
  subst e
  refine⟨ih.size,ih.defers,fun t v hg=>?_⟩
  simp only[X.setbs,X.get]at hg
  split at hg
  ·rename_i e
   subst e
   obtain rfl:=ia hg
   exact ha.get s _ h.1
  ·exact ih.get t v hg
theorem yw {k:Nat}{b:Bool}{p q:Prop}(ss:List Nat)(r:Rf b p q)(ht:p->WS P N ops Q k (setbs true f ss) w)(hf:q->WS P N ops Q k (setbs false f ss) w)
  (h:ss.map (get f)=ss.map (fun _=>some (.bool b)):=by kernel_rfl):WS P N ops Q k f w:=fun a ha=>by
 cases e:b
 ·exact hf (r.f e) a (ha.setbs e h)
 ·exact ht (r.t e) a (ha.setbs e h)
theorem yv {kill:List Nat}{F:World->Prop}{done:List Nat}{b:Bool}{p q:Prop}(ss:List Nat)(r:Rf b p q)(ht:p->WD P N ops Q kill F done (setbs true f ss) w)(hf:q->WD P N ops Q kill F done (setbs false f ss) w)
  (h:ss.map (get f)=ss.map (fun _=>some (.bool b)):=by kernel_rfl):WD P N ops Q kill F done f w:=fun a ha=>by
 cases e:b
 ·exact hf (r.f e) a (ha.setbs e h)
 ·exact ht (r.t e) a (ha.setbs e h)
end
theorem Has.kp {N:Nat}{f f':Fr}{a:Act}(h:Has N f a)(ks:List Nat)(e:X.keep ks f=f':=by kernel_rfl):Has N f' a:=e▸h.keep ks
abbrev uL (a n:Nat):List Nat:=List.range' a n
section
variable {P:Program}{N:Nat}{ops:Array Oper}{Q:Exit->Act->World->Prop}{kill:List Nat}{F:World->Prop}{w:World}{done:List Nat}{f:Fr}
def nd (P:Program)(N:Nat)(ops:Array Oper)(alt is:List Nat)(f:Fr)(lv:List Value):Fr:=
 match qod P N ops alt is f lv with
 |some (f',_)=>f'
 |none=>[]
theorem qom {tot:Bool}{alt:List Nat}:∀(is done:List Nat) {f f':Fr} {lv:List Value} {cs:List (World->Prop)},rund P N ops tot alt kill done is f lv=some (f',cs)->qod P N ops alt is f lv=some (f',cs)
 |[],done,f,f',lv,cs,h=>by unfold rund at h;unfold qod;exact h
 |i::is,done,f,f',lv,cs,h=>by
  unfold rund at h
  unfold qod
  split at h
  ·rename_i f1 cs1 lv1 hs
   split at h
   ·split at h
    ·rename_i f2 cs2 hr
     simp only[qom is _ hr];exact h
    ·cases h
   ·cases h
  ·cases h
def cd (P:Program)(N:Nat)(ops:Array Oper)(tot:Bool)(alt kill done is:List Nat)(f:Fr)(lv:List Value):Option (List (World->Prop)):=
 if(Region.noSelect ops&&Nat.ble (done.length+is.length) ops.size&&qof ops (qY ops.size done))=true then
  match rund P N ops tot alt kill done is f lv with
  |some (_,cs)=>some cs
  |none=>none
 else none
theorem qlC {cs:List (World->Prop)}{lv:List Value}{tot:Bool}(is alt:List Nat)(hF:F w)(hc:∀w',F w'->qc6 cs w')(hT:tot=true-> ∀w',qc6 cs w')(hn:WD P N ops (Calm Q) kill F (done++is) (nd P N ops alt is f lv) w)
  (h:cd P N ops tot alt kill done is f lv=some cs):WD P N ops (Calm Q) kill F done f w:=by
 intro a ha;unfold cd at h;split at h
 ·rename_i hk
  rw[ii,ii]at hk;split at h
  ·rename_i f1 c hr
   obtain rfl:=ia h;refine qog hk.1.1 hF is done hr (qjf hk.2) (qc2 hk.1.2) ha hc hT fun a' b=>hn a' ?_;simp only[nd,qom is done hr];exact b
  ·cases h
 ·cases h
theorem yd {cs:List (World->Prop)}{lv:List Value}(is alt:List Nat)(hp:Pf w cs lv)(hn:WD P N ops (Calm Q) kill (fun u=>u=w) (done++is) (nd P N ops alt is f lv) w)
  (h:cd P N ops false alt kill done is f lv=some cs:=by kernel_rfl):WD P N ops (Calm Q) kill (fun u=>u=w) done f w:=qlC is alt rfl (c_eq hp.all) (fun h=>by cases h) hn h
theorem ydC {B:Nat->Prop}{cs:List (World->Prop)}{lv:List Value}(is alt:List Nat)(hp:∀u,Ch B w u->Pf u cs lv)(hn:WD P N ops (Calm Q) kill (fun u=>Ch B w u) (done++is) (nd P N ops alt is f lv) w)
  (h:cd P N ops false alt kill done is f lv=some cs:=by kernel_rfl):WD P N ops (Calm Q) kill (fun u=>Ch B w u) done f w:=qlC is alt (Ch.refl _ _) (fun u hu=>(hp u hu).all) (fun h=>by cases h) hn h
theorem ydF {cs:List (World->Prop)}{lv:List Value}(is alt:List Nat)(hF:F w)(hp:∀u,F u->Pf u cs lv)(hn:WD P N ops (Calm Q) kill F (done++is) (nd P N ops alt is f lv) w)
  (h:cd P N ops false alt kill done is f lv=some cs:=by kernel_rfl):WD P N ops (Calm Q) kill F done f w:=qlC is alt hF (fun u hu=>(hp u hu).all) (fun h=>by cases h) hn h
theorem ydT {cs:List (World->Prop)}{lv:List Value}(is alt:List Nat)(hF:F w)(hp:∀u,Pf u cs lv)(hn:WD P N ops (Calm Q) kill F (done++is) (nd P N ops alt is f lv) w)
  (h:cd P N ops true alt kill done is f lv=some cs:=by kernel_rfl):WD P N ops (Calm Q) kill F done f w:=qlC is alt hF (fun u _=>(hp u).all) (fun _ u=>(hp u).all) hn h
theorem yD {id:Nat}(kill:List Nat)(h:∀w',w'.heap=w.heap->Ch (fun _=>False) w w'->WD P N ops (Calm Q) kill (fun u=>u=w') [] f w')(hm:P.follows .mixedOrders=true:=by kernel_rfl):WC P N Q (.region id ops true) f w:=qoj kill hm h
theorem yDC {id:Nat}(kill:List Nat)(h:∀w',w'.heap=w.heap->Ch (fun _=>False) w w'->WD P N ops (Calm Q) kill (fun u=>Ch (fun _=>False) w' u) [] f w')(hm:P.follows .mixedOrders=true:=by kernel_rfl):WC P N Q (.region id ops true) f w:=x_drawnC kill hm h
theorem yDe (h:∀a,Has N f a->Q .normal a w)(hk:ops.size=done.length:=by kernel_rfl)(hr:(Region.ready .any ops (qY ops.size done)).isEmpty=true:=by kernel_rfl):WD P N ops (Calm Q) kill F done f w:=x_dend hk hr h
theorem yH (k:Nat)(h:∀a,Has N f a->wpOp P ops Q k (fun a' w'=> ∃G:World->Prop,(∀u,G u->F u)/\G w'/\qaD P ops Q kill G (ops.size-(done++[k]).length) (qY ops.size (done++[k])) a' w') a w)
  (hr:(Region.ready .any ops (qY ops.size done)==[k])=true:=by kernel_rfl) (hk:kill.contains k=false:=by kernel_rfl) (hl:Nat.blt done.length ops.size=true:=by kernel_rfl):WD P N ops Q kill F done f w:=
 x_deff k _ hr hk rfl (by simpa[Nat.blt_eq]using hl) h
theorem yK (k:Nat)(h:∀a,Has N f a->wpOp P ops Q k (fun a' w'=> ∃G:World->Prop,G w'/\qaD P ops Q kill G (ops.size-(done++[k]).length) (qY ops.size (done++[k])) a' w') a w)
  (hr:(Region.ready .any ops (qY ops.size done)==[k])=true:=by kernel_rfl) (hk:kill.contains k=true:=by kernel_rfl) (hl:Nat.blt done.length ops.size=true:=by kernel_rfl):WD P N ops Q kill F done f w:=
 x_dkill k _ hr hk rfl (by simpa[Nat.blt_eq]using hl) h
theorem yo {k:Nat}(h:∀a,Has N f a->wpOp P ops Q k (fun a' w'=>wpOps P ops Q (List.range' (k+1) (ops.size-(k+1))) a' w') a w)(hk:Nat.blt k ops.size=true:=by kernel_rfl):WS P N ops Q k f w:=
 x_eff (k+1) ⟨rfl,by simpa[Nat.blt_eq]using hk⟩ h
end
section
variable {P:Program}{N:Nat}{ops:Array Oper}{Q:Exit->Act->World->Prop}{f:Fr}{k:Nat}{K:Act->World->Prop}{w:World}
def dO (ops:Array Oper)(k:Nat):Option Tmp:=(ops[k]?).bind (·.dst)
theorem yC {g:FuncId}{vs:List Value}{R:Ending->World->Prop}(hc:Calls P g vs.toArray w R)(hK:∀e w',R e w'-> ∃v,e= .returned v/\ ∀a',Has N (pushd (dO ops k) v f) a'->K a' w')
  (h:qlB P N ops f k=some (g,vs,dO ops k):=by kernel_rfl):∀a,Has N f a->wpOp P ops Q k K a w:=e_call _ h hc hK
theorem yQ {g:FuncId}{vs:List Value}{v:Value}{A:World->Prop}(hc:Calls P g vs.toArray w fun e w'=>e= .returned v/\A w')(hK:∀w',A w'-> ∀a',Has N (pushd (dO ops k) v f) a'->K a' w')
  (h:qlB P N ops f k=some (g,vs,dO ops k):=by kernel_rfl):∀a,Has N f a->wpOp P ops Q k K a w:=e_call _ h hc fun _ w' h=>⟨v,h.1,hK w' h.2⟩
def sP (P:Program)(N:Nat)(ops:Array Oper)(f:Fr)(k:Nat):Nat:=
 match storeAt P N ops f k with
 |some (_,o,_,_)=>o
 |none=>0
def sV (P:Program)(N:Nat)(ops:Array Oper)(f:Fr)(k:Nat):List Value:=
 match storeAt P N ops f k with
 |some (_,_,vs,_)=>vs
 |none=>[]
theorem yS {b:Nat}{cs:List Value}{T:TypeId}(hb:Blk w b cs T)(hK:∀w',Blk w' b (put cs (sP P N ops f k) (sV P N ops f k)) T->Ch (fun k=>k=b) w w'-> ∀a',Has N (pushd (dO ops k) undef f) a'->K a' w')
  (h:storeAt P N ops f k=some (b,sP P N ops f k,sV P N ops f k,dO ops k):=by kernel_rfl) (hfit:Nat.ble (sP P N ops f k+(sV P N ops f k).length) cs.length=true:=by kernel_rfl):∀a,Has N f a->wpOp P ops Q k K a w:=
 qaL _ _ _ h hb (qc2 hfit) hK
theorem yT (vs:List Value){b:Nat}{cs:List Value}{T:TypeId}(hb:Blk w b cs T)(hK:∀w',Blk w' b vs T->Ch (fun k=>k=b) w w'-> ∀a',Has N (pushd (dO ops k) undef f) a'->K a' w')
  (h:storeAt P N ops f k=some (b,sP P N ops f k,sV P N ops f k,dO ops k):=by kernel_rfl) (hfit:Nat.ble (sP P N ops f k+(sV P N ops f k).length) cs.length=true:=by kernel_rfl) (he:put cs (sP P N ops f k) (sV P N ops f k)=vs:=by kernel_rfl):∀a,Has N f a->wpOp P ops Q k K a w:=
 yS hb (fun w' hB=>hK w' (hB.to he)) h hfit
theorem yN (cs:List Value)(t:TypeId)(hK:∀w' b,b=w.heap.size->w'.heap.size=w.heap.size+1->Blk w' b cs t->Ch (fun _=>False) w w'-> ∀a',Has N (pushd (dO ops k) (.pointer (some ⟨b,0,none⟩)) f) a'->K a' w')
  (h:newAt P N ops f k=some (cs,t,dO ops k):=by kernel_rfl):∀a,Has N f a->wpOp P ops Q k K a w:=e_new cs t _ h hK
theorem yB (cs:List Value)(t:TypeId)(len:Nat)(hK:∀w' b,b=w.heap.size->w'.heap.size=w.heap.size+1->Blk w' b cs t->Ch (fun _=>False) w w'-> ∀a',Has N (pushd (dO ops k) (.slice (some ⟨b,0,none⟩) len len) f) a'->K a' w')
  (h:bsAt P N ops f k=some (cs,t,len,dO ops k):=by kernel_rfl):∀a,Has N f a->wpOp P ops Q k K a w:=e_bs cs t len _ h hK
end
theorem yA {P:Program}{g:FuncId}{fn:Func}{c:Code}{args:List Value}{w:World}{R:Ending->World->Prop}(hf:P.funcs[g]? =some fn)(hb:fn.body=some c)
  (h:WC P fn.ntmps (bodyPost P fn R) c (qht 0 args) w) (hn:Nat.ble args.length fn.ntmps=true:=by kernel_rfl):Calls P g args.toArray w R:=x_enter hf hb (qc2 hn) h
section
variable {P:Program}{N:Nat}{fn:Func}{R:Ending->World->Prop}{f:Fr}{w:World}
theorem yR0 (h:R (.returned (.tuple #[])) w)(hr:fn.results= #[]:=by kernel_rfl):∀a,Has N f a->bodyPost P fn R .ret a w:=x_done0 hr h
theorem qW (h:R (.returned (.tuple #[])) w)(hr:fn.results= #[]:=by kernel_rfl):∀a,Has N f a->bodyPost P fn R .normal a w:=x_done0' hr h
def res1 (fn:Func)(f:Fr):Option Value:=match fn.results.toList with
 |[.tmp t]=>get f t
 |_=>none
theorem yR1 (v:Value)(h:R (.returned v) w)(hv:res1 fn f=some v:=by kernel_rfl):∀a,Has N f a->bodyPost P fn R .ret a w:=by
 unfold res1 at hv;split at hv
 ·rename_i t ht
  exact x_done1 (t:=t) (by rw[<-jM (xs:=fn.results),ht]) hv h
 ·cases hv
theorem qfZ {lv:List Value}{cs:List (World->Prop)}(v:Value)(hp:Pf w cs lv)(h:R (.returned v) w)(hr:qol P f fn.results.toList lv=some ([v],cs):=by kernel_rfl):∀a,Has N f a->bodyPost P fn R .ret a w:=by
 intro a ha;refine⟨ha.defers,v,?_,h⟩;unfold results;rw[<-jM (xs:=fn.results)];simp only[List.mapM_toArray,Sem.run_bind,Sem.run_map];rw[qfY ha _ (fun _=>rfl) (fun _ _=>rfl) fn.results.toList lv [v] cs hr hp.all];simp
theorem yR2 {lv:List Value}{cs:List (World->Prop)}(vs:List Value)(hp:Pf w cs lv)(h:R (.returned (.tuple vs.toArray)) w)(hr:qol P f fn.results.toList lv=some (vs,cs):=by kernel_rfl)(h2:Nat.ble 2 vs.length=true:=by kernel_rfl):∀a,Has N f a->bodyPost P fn R .ret a w:=x_done vs lv hr h2 hp.all h
end
end Go.Proofs.YtjjcnhgpccancaaGreatDoor.X
