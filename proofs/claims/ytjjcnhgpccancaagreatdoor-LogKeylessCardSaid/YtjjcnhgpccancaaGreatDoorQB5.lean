/- What the proofs of LogKeys, LogBack, LogKeyless need, part 5: the walks of the program's functions and the plain laws about them. -/
import Derived.Test.YtjjcnhgpccancaaGreatDoorQB4
set_option linter.unusedSimpArgs false
set_option linter.unusedVariables false
set_option maxHeartbeats 4000000
namespace Go.Proofs.YtjjcnhgpccancaaGreatDoor.X
open Go Go.RowKit Go.Proofs.YtjjcnhgpccancaaGreatDoor
theorem qo {n:Nat}(h:n<2^64):qaA (qS n):=qjY 9 n (Nat.lt_of_lt_of_le h (by decide))
theorem qdL {x:ByteArray}(h:x.size<2^64):qaA (qbp x):=qj (qo h) (qgA x)
theorem qdv {α:Type}{f:α->List Int}:∀{l:List α},(∀x∈l,qaA (f x))->qaA (l.flatMap f)
 |[],_=>fun x hx=>by cases hx
 |a::l,h=>by rw[List.flatMap_cons];exact qj (h a (List.mem_cons_self ..)) (qdv fun x hx=>h x (List.mem_cons_of_mem _ hx))
theorem qpb {n:Nat}{c:Cel}(hn:n<2^64)(h:cOk c):qaA (qdq n c):=by
 obtain⟨h1,h2,h3⟩:=h
 have:=qeO h1
 exact qj (qo hn) (qj (qo (by omega)) (qo (by omega)))
theorem qeT:∀(f:Nat) (l:List Cel),l.length<=f->f<2^60->(∀c∈l,cOk c)->qaA (qa2 l)
 |_,[],_,_,_=>fun x hx=>by cases hx
 |0,c::l,hf,_,_=>by simp at hf
 |f+1,c::l,hf,hb,hc=>by
  obtain⟨n,l',e,hl'⟩:=qeS c l
  have hlen:(c::l).length=(n+1)+l'.length:=by rw[e,List.length_append,List.length_replicate]
  rw[e,qdr hl' n]
  exact qj (qpb (by omega) (hc c (List.mem_cons_self ..))) (qeT f l' (by omega) (by omega) fun d hd=>hc d (by rw[e];exact List.mem_append_right _ hd))
theorem qiM {W H:Int}{c:Cur}(hc:CurOk W H c)(hW:W<=60)(hH:H<=60):qaA (qe3 c):=by
 obtain⟨h1,h2,h3,h4⟩:=hc
 have:=qeO h4
 have:=qbv (fun i=>[c.late].getD i false) 1
 exact qj (qo (by omega)) (qj (qo (by omega)) (qj (qo (by unfold qa8;cases c.late<;>decide)) (qo (by omega))))
theorem qpc {p:PS}(h:ParsOk p):qaA (qcf p):=by
 obtain⟨h1,h2,h3,h4,h5,h6,h7,h8,h9⟩:=h
 have:=qbn p.utf.pend
 refine qj (qo (by omega)) (qj (qo (by omega)) (qj (qdL (by omega)) (qj (qdL (by omega)) (qj (qo (by omega)) (qj (qdv fun x hx=>?_) (qdL (by omega)))))))
 have:=h7 x hx
 exact qo (by omega)
theorem qd1 {T:TS}(h:DecOk T):qaA (qN T):=by
 obtain⟨dw,dh,⟨dow,doh⟩,dt,dc,ds,da,dg,dg2,dk,dti,dr,dp⟩:=h
 have hfl:qa8 (qbz T)<2^8:=qbv _ 8
 have htb:=qbv T.tabs 60
 have h2:(2:Nat)^60<2^64:=by decide
 refine qj (qo (by omega)) (qj (qo (by omega)) (qj (qo (by omega)) (qj (qo (by omega)) (qj (qo (by omega)) (qj (qo (by omega)) (qj (qiM dc dw.2 dh.2) (qj (qiM ds dw.2 dh.2) (qj (qiM da dw.2 dh.2)
  (qj (qdv fun l hl=>?_) (qj (qdv fun l hl=>?_) (qj (qo (by have:=dk.1;omega)) (qj (qdv fun l hl=>?_) (qj (qdL (by omega)) (qj (qdL (by omega)) (qpc dp)))))))))))))))
 ·obtain⟨h1,_,h3⟩:=dg.2 l hl
  exact qeT 1000 l (by omega) (by omega) h3
 ·obtain⟨h1,_,h3⟩:=dg2.2 l hl
  exact qeT 1000 l (by omega) (by omega) h3
 ·obtain⟨h0,h1,_,h3⟩:=dk.2 l hl
  exact qj (qo (by omega)) (qeT 1000 l (by omega) (by omega) h3)
theorem qm2:∀(f n:Nat),(qhP f n).length<=f+1
 |0,n=>by simp[qhP]
 |f+1,n=>by
  rw[qhP]
  split
  ·simp
  ·have:=qm2 f (n/128)
   rw[List.length_cons];omega
theorem qX (n:Nat):(qS n).length<=10:=qm2 9 n
theorem qfo (x:ByteArray):(qbp x).length<=10+x.size:=by
 unfold qbp
 rw[List.length_append,qeN]
 have:=qX x.size
 omega
theorem qg7 {α:Type}{f:α->List Int}{c:Nat}:∀{l:List α},(∀x∈l,(f x).length<=c)->(l.flatMap f).length<=c*l.length
 |[],_=>by simp
 |a::l,h=>by
  rw[List.flatMap_cons,List.length_append,List.length_cons,Nat.mul_succ]
  have h1:=h a (List.mem_cons_self ..)
  have h2:=qg7 (f:=f) (c:=c) fun x hx=>h x (List.mem_cons_of_mem a hx)
  omega
theorem len_cell (n:Nat)(c:Cel):(qdq n c).length<=30:=by
 unfold qdq
 rw[List.length_append,List.length_append]
 have h1:=qX n
 have h2:=qX c.rune.toNat
 have h3:=qX (qbA c.sty)
 omega
theorem qiN:∀(f:Nat) (l:List Cel),l.length<=f->(qa2 l).length<=30*l.length
 |_,[],_=>by simp[qa2,qe1]
 |0,c::l,hf=>by simp at hf
 |f+1,c::l,hf=>by
  obtain⟨n,l',e,hl'⟩:=qeS c l
  have hlen:(c::l).length=(n+1)+l'.length:=by rw[e,List.length_append,List.length_replicate]
  rw[e,qdr hl' n,List.length_append,<-e,hlen]
  have h1:=len_cell (n+1) c
  have h2:=qiN f l' (by omega)
  omega
theorem ql4 (c:Cur):(qe3 c).length<=40:=by
 unfold qe3
 simp only[List.length_append]
 have h1:=qX c.x.toNat
 have h2:=qX c.y.toNat
 have h3:=qX (qa8 [c.late])
 have h4:=qX (qbA c.sty)
 omega
theorem qkb {W:Int}{L:List (List Cel)}(hW:W<=60)(h:∀l∈L,(l.length:Int)=W/\qb1 l=true/\ ∀c∈l,cOk c):(L.flatMap qa2).length<=1800*L.length:=qg7 fun l hl=>by
 have h1:=(h l hl).1
 have h2:=qiN l.length l (Nat.le_refl _)
 omega
theorem len_pars {p:PS}(h:ParsOk p):(qcf p).length<=1000:=by
 obtain⟨h1,h2,h3,h4,h5,h6,h7,h8,h9⟩:=h
 have k3:=qfo (qf p.utf.pend)
 have k6:(p.params.flatMap fun n=>qS n.toNat).length<=10*p.params.length:=qg7 fun n _=>qX n.toNat
 rw[qbn]at k3
 have k9:=h4.2
 have e:=Nat.add_le_add (qX p.state.toNat) (Nat.add_le_add (qX p.within.toNat) (Nat.add_le_add k3 (Nat.add_le_add (qfo p.marks) (Nat.add_le_add (qX p.params.length) (Nat.add_le_add k6 (qfo p.text))))))
 clear k3 k6
 unfold qcf
 rw[List.length_append,List.length_append,List.length_append,List.length_append,List.length_append,List.length_append]
 refine Nat.le_trans e ?_
 clear e h1 h2 h7
 omega
theorem qcg {T:TS}(h:DecOk T):(qN T).length<=300000:=by
 obtain⟨dw,dh,⟨dow,doh⟩,dt,dc,ds,da,dg,dg2,dk,dti,dr,dp⟩:=h
 have e13:(qbP T.back).length<=1810*T.back.length:=by
  unfold qbP
  refine qg7 fun l hl=>?_
  have q1:=(dk.2 l hl).2.1
  rw[List.length_append]
  refine Nat.le_trans (Nat.add_le_add (qX l.length) (qiN l.length l (Nat.le_refl _))) ?_
  omega
 have e:=Nat.add_le_add (qX T.grid.w.toNat) (Nat.add_le_add (qX T.grid.h.toNat) (Nat.add_le_add (qX T.top.toNat) (Nat.add_le_add (qX T.bot.toNat) (Nat.add_le_add (qX (qa8 (qbz T))) (Nat.add_le_add (qX (qah T.tabs 60)) (Nat.add_le_add (ql4 T.cursor) (Nat.add_le_add (ql4 T.saved) (Nat.add_le_add (ql4 T.away)
  (Nat.add_le_add (qkb dw.2 dg.2) (Nat.add_le_add (qkb dw.2 dg2.2) (Nat.add_le_add (qX T.back.length) (Nat.add_le_add e13 (Nat.add_le_add (qfo T.title) (Nat.add_le_add (qfo T.reply) (len_pars dp)))))))))))))))
 clear e13
 have g1:T.grid.lines.length<=60:=by have:=dg.1;omega
 have g2:T.other.lines.length<=60:=by have:=dg2.1;omega
 have g3:T.back.length<=20:=dk.1
 have g4:T.title.size<=40:=dti
 have g5:T.reply.size<=400:=dr
 unfold qN
 rw[List.length_append,List.length_append,List.length_append,List.length_append,List.length_append,List.length_append,List.length_append,List.length_append,List.length_append,List.length_append,List.length_append,List.length_append,List.length_append,List.length_append,List.length_append]
 refine Nat.le_trans e ?_
 clear e
 omega
theorem qpd (f:Nat->Bool):qhg (qfO (qah f 60) 60)=qhg f:=by
 unfold qhg
 refine List.map_congr_left fun i hi=>?_
 have h:=List.mem_range.1 hi
 unfold qfO
 rw[if_pos h,qe4 f 60 i h]
theorem qpe (T:TS)(g o:Nat)(bk ps:Value):(qp7 T).vals g o bk ps=T.vals g o bk ps:=by
 unfold TS.vals
 show _++qhg (qfO (qah T.tabs 60) 60)++_=_
 rw[qpd]
 rfl
theorem TermAt.back {w:World}{t:Nat}{T:TS}{F:Nat->Prop}(h:TermAt w t (qp7 T) F):TermAt w t T F:=by
 obtain⟨g,o,ba,bn,bc,pa,pn,pc,F1,F2,FB,FP,hI⟩:=h
 obtain⟨b,g1,g2,bk,bcap,ps,pz,bz,t1,t2,tB,tP,a12,a1B,a2B,a1P,a2P,inF,lt,hi⟩:=hI
 rw[qpe]at b
 exact⟨g,o,ba,bn,bc,pa,pn,pc,F1,F2,FB,FP,b,g1,g2,bk,bcap,ps,pz,bz,t1,t2,tB,tP,a12,a1B,a2B,a1P,a2P,inF,lt,hi⟩
theorem qkc {T:TS}(h:DecOk T):qlZ (some (qN T))=some (qp7 T):=by
 have:=decT_put h []
 rwa[List.append_nil,if_pos rfl]at this
def oneF (P:Nat->Prop):Nat->Nat->Prop
 |0=>P
 |_+1=>fun _=>False
theorem Sys.one {w w':World}{t:Nat}{T:TS}(hT:LT w)(h7:gTop<=w.heap.size)(hc:Ch (fun _=>False) w w')(hA:TermAt w' t T (fun b=>w.heap.size<=b/\b<w'.heap.size))(hf:Fine T):Sys w w' [] [(t,T)]:=by
 refine⟨hc,qat hc hT (fun _ h=>h.elim),h7,fun i x e=>by simp at e,fun i x e=>by simp at e,fun i j x y e=>by simp at e,oneF fun b=>w.heap.size<=b/\b<w'.heap.size,fun i x e=>?_,fun i j hij b hb hb'=>?_,fun i b hb=>?_,fun i j x e=>by simp at e⟩
 ·cases i with
  |zero=>obtain rfl:=(Option.some.inj e).symm;exact⟨hA,hf⟩
  |succ i=>simp at e
 ·cases i with
  |zero=>cases j with
   |zero=>exact hij rfl
   |succ j=>exact hb'
  |succ i=>exact hb
 ·cases i with
  |zero=>exact hb
  |succ i=>exact hb.elim
theorem Sys.join {w0 w1 w2:World}{bs:List (Nat×List Value×TypeId)}{ts ts':List (Nat×TS)}(h:Sys w0 w1 bs ts)(h':Sys w1 w2 [] ts'):Sys w0 w2 bs (ts++ts'):=by
 obtain⟨F,h1,h2,h3,h4⟩:=h.tm
 obtain⟨F',k1,k2,k3,k4⟩:=h'.tm
 have hs:=h.same h'.ch
 have hz:=h'.ch.size
 have hz0:=h.ch.size
 refine⟨hs.ch,h'.lt,h.top,hs.blk,hs.lo,hs.df,fun i=>if i<ts.length then F i else F' (i-ts.length),fun i x e=>?_,fun i j hij b hb hb'=>?_,fun i b hb=>?_,fun i j x e hb=>?_⟩
 ·rcases Nat.lt_or_ge i ts.length with hi|hi
  ·rw[List.getElem?_append_left hi]at e
   dsimp only
   rw[if_pos hi]
   exact⟨(h1 i x e).1.ch h'.ch (fun _ _ h=>h),(h1 i x e).2⟩
  ·rw[List.getElem?_append_right hi]at e
   dsimp only
   rw[if_neg (by omega)]
   exact k1 _ x e
 ·dsimp only at hb hb'
  by_cases hi:i<ts.length
  ·rw[if_pos hi]at hb
   have hlt:=(h3 i b hb).2
   by_cases hj:j<ts.length
   ·rw[if_pos hj]at hb';exact h2 i j hij b hb hb'
   ·rw[if_neg hj]at hb';have:=(k3 _ b hb').1;omega
  ·rw[if_neg hi]at hb
   by_cases hj:j<ts.length
   ·rw[if_pos hj]at hb';have:=(k3 _ b hb).1;have:=(h3 j b hb').2;omega
   ·rw[if_neg hj]at hb';exact k2 _ _ (by omega) b hb hb'
 ·dsimp only at hb
  by_cases hi:i<ts.length
  ·rw[if_pos hi]at hb;have:=h3 i b hb;omega
  ·rw[if_neg hi]at hb;have:=k3 _ b hb;omega
 ·dsimp only at hb
  by_cases hj:j<ts.length
  ·rw[if_pos hj]at hb;exact h4 i j x e hb
  ·rw[if_neg hj]at hb;have:=(k3 _ _ hb).1;have:=(h.blk i x e).lt;omega
structure OkS (T:TS):Prop where
 ok:∃W H,Okt true W H T
 pr:PRight T.parser
 fine:Fine T
theorem OkS.start (p1 p2:Int):OkS (startT zeroT p1 p2):=⟨⟨_,_,qlT zeroT p1 p2 (by decide)⟩,qeQ (.inl rfl),qhK p1 p2⟩
theorem OkS.doN {T:TS}(h:OkS T)(l:List Stp):∀k,OkS (doN T l k)
 |0=>h
 |k+1=>by
  obtain⟨⟨W,H,h1⟩,h2,h3⟩:=OkS.doN h l k
  exact⟨ok_do h1 h3.2 _,pr_do h2 h3.2 _,fine_do h3 _⟩
theorem OkS.dec {T:TS}(h:OkS T):DecOk T:=by
 obtain⟨⟨W,H,h1⟩,h2,h3⟩:=h
 exact decOk_of h1 h2 h3.2
def crc1 (c:Int):Int:=qe .xor .u32 (Int.fdiv c (2^min (1:Int).toNat (IntKind.bits .u32))) (IntKind.wrap .u32 (3988292384*(qe .and .u32 c 1)))
def crcK (c:Int):Nat->Int
 |0=>c
 |k+1=>crc1 (crcK c k)
def sumK (l:List Int):Nat->Int
 |0=>4294967295
 |k+1=>crcK (qe .xor .u32 (sumK l k) (l.getD k 0)) 8
def qfH (l:List Int):Int:=qe .xor .u32 4294967295 (sumK l l.length)
theorem qpf (op:BinOp)(a b:Int):0<=qe op .u32 a b/\qe op .u32 a b<=4294967295:=by
 have key:∀n:Int,0<=IntKind.wrap .u32 n/\IntKind.wrap .u32 n<=4294967295:=fun n=>by
  simp only[IntKind.wrap,IntKind.bits,IntKind.signed]
  constructor
  ·simp;omega
  ·simp;omega
 unfold qe
 cases op<;>exact key _
theorem sumI_bd (l:List Int):0<=qfH l/\qfH l<=4294967295:=qpf _ _ _
abbrev byA (s:Int)(k:Int):Int:=IntKind.wrap .u8 (Int.fdiv s (2^min k.toNat (IntKind.bits .u32)))
def sum4 (s:Int):List Int:=[IntKind.wrap .u8 s,byA s 8,byA s 16,byA s 24]
theorem qiO (n:Int):0<=IntKind.wrap .u8 n/\IntKind.wrap .u8 n<=255:=by
 simp only[IntKind.wrap,IntKind.bits,IntKind.signed]
 constructor
 ·simp;omega
 ·simp;omega
theorem qpg (s:Int):qaA (sum4 s):=fun x hx=>by
 unfold sum4 at hx
 simp only[List.mem_cons,List.not_mem_nil,or_false]at hx
 rcases hx with rfl|rfl|rfl|rfl<;>exact qiO _
def qaU (b:List Int):List Int:=qS b.length++b
def qaa (b:List Int):List Int:=qaU b++sum4 (qfH (qaU b))
theorem qbR (b:List Int):(qaa b).length=(qS b.length).length+b.length+4:=by
 unfold qaa qaU
 rw[List.length_append,List.length_append];rfl
theorem qbC {b:List Int}(h:qaA b)(hl:b.length<2^64):qaA (qaa b):=qj (qj (qo hl) h) (qpg _)
def qaV (l:List Int):List Int×Nat:=
 if(qa1 l).2=0\/l.length<(qa1 l).1+(qa1 l).2+4 then([],0)
 else if qaa ((l.drop (qa1 l).2).take (qa1 l).1)=l.take ((qa1 l).2+(qa1 l).1+4)then((l.drop (qa1 l).2).take (qa1 l).1,(qa1 l).2+(qa1 l).1+4)else([],0)
theorem qeU (n:Nat):0<(qS n).length:=List.length_pos_iff.2 (qoO 9 n)
theorem qfp {x:List Int}(r:List Int)(h:x.length<2^64):qaV (qaa x++r)=(x,(qaa x).length):=by
 have e:qaa x++r=qS x.length++(x++(sum4 (qfH (qaU x))++r)):=by unfold qaa qaU;simp only[List.append_assoc]
 have ht:qa1 (qaa x++r)=(x.length,(qS x.length).length):=by rw[e];exact qjZ _ h
 have hp:=qeU x.length
 have hl:=qbR x
 have hd:((qaa x++r).drop (qS x.length).length).take x.length=x:=by rw[e,List.drop_left,List.take_left]
 unfold qaV
 rw[ht]
 dsimp only
 rw[if_neg (by rw[List.length_append];omega),hd,List.take_left' (by omega),if_pos rfl]
 exact Prod.ext rfl (by dsimp only;omega)
theorem ql5 {l:List Int}:(qaV l).2<=l.length:=by
 unfold qaV
 split
 ·exact Nat.zero_le _
 ·rename_i h
  split
  ·dsimp only;omega
  ·exact Nat.zero_le _
theorem qm3 {l:List Int}:(qaV l).1.length<=l.length:=by
 unfold qaV
 split
 ·exact Nat.zero_le _
 ·rename_i h
  split
  ·dsimp only;rw[List.length_take,List.length_drop];omega
  ·exact Nat.zero_le _
theorem qkd {l:List Int}(h:qaA l):qaA (qaV l).1:=by
 unfold qaV
 split
 ·exact fun x hx=>by cases hx
 ·split
  ·exact fun x hx=>h x (List.mem_of_mem_drop (List.mem_of_mem_take hx))
  ·exact fun x hx=>by cases hx
structure Ev where
 time:Int
 kind:Int
 data:ByteArray
 w:Int
 h:Int
def ev0:Ev:=⟨0,0,ByteArray.empty,0,0⟩
def Ev.vals (e:Ev):List Value:=[.int .i64 e.time,.int .i64 e.kind,.string e.data,.int .i64 e.w,.int .i64 e.h]
def evB (e:Ev):Bool:=
 if e.time<0\/4611686018427387904<=e.time\/400<((e.data.size:Nat):Int)then false
 else if e.kind=2 then decide (e.data.size=0/\1<=e.w/\1<=e.h/\e.w<=1000/\e.h<=1000)
 else if e.kind=0\/e.kind=1\/e.kind=3 then decide (e.w=0/\e.h=0)else false
def evI (fr:Int)(e:Ev):List Int:=qS e.kind.toNat++qS (e.time-fr).toNat++(if e.kind=2 then qS e.w.toNat++qS e.h.toNat else qbp e.data)
def evR (fr:Int)(s:RS):Option Ev×RS:=
 let q1:=qM 4 s
 let q2:=qM 4611686018427387904 q1.2
 if q1.1=2 then
  let q3:=qM 1001 q2.2
  let q4:=qM 1001 q3.2
  (if q4.2.isSome=true/\evB ⟨fr+q2.1,q1.1,E0,q3.1,q4.1⟩=true then some ⟨fr+q2.1,q1.1,E0,q3.1,q4.1⟩else none,q4.2)
 else
  let q3:=qb4 400 q2.2
  (if q3.2.isSome=true/\evB ⟨fr+q2.1,q1.1,q3.1,0,0⟩=true then some ⟨fr+q2.1,q1.1,q3.1,0,0⟩else none,q3.2)
theorem qgI {e:Ev}(h:evB e=true):((0<=e.time/\e.time<4611686018427387904)/\e.data.size<=400)/\((e.kind=2/\e.data.size=0/\(1<=e.w/\e.w<=1000)/\1<=e.h/\e.h<=1000)\/((e.kind=0\/e.kind=1\/e.kind=3)/\e.w=0/\e.h=0)):=by
 unfold evB at h
 split at h
 ·cases h
 ·rename_i h1
  split at h
  ·rename_i h2
   have:=of_decide_eq_true h
   exact⟨by omega,.inl ⟨h2,by omega⟩⟩
  ·split at h
   ·rename_i h3
    have:=of_decide_eq_true h
    exact⟨by omega,.inr ⟨h3,this⟩⟩
   ·cases h
theorem bytes0 {s:ByteArray}(h:s.size=0):s=E0:=by
 apply ByteArray.ext
 apply Array.ext
 ·exact h
 ·intro i hi;have:s.data.size=0:=h;omega
theorem evR_put {fr:Int}{e:Ev}(r:List Int)(h:evB e=true)(h0:0<=fr/\fr<=e.time):evR fr (some (evI fr e++r))=(some e,some r):=by
 obtain⟨⟨h1,h2⟩,h3⟩:=qgI h
 obtain⟨t,k,d,w,hh⟩:=e
 dsimp only at*
 have hk:0<=k/\k<=3:=by rcases h3 with h3|h3<;>omega
 have e1:qM 4 (some (evI fr ⟨t,k,d,w,hh⟩++r))=(k,some (qS (t-fr).toNat++((if k=2 then qS w.toNat++qS hh.toNat else qbp d)++r))):=by
  unfold evI
  dsimp only
  rw[List.append_assoc,List.append_assoc,qa7 _ (by omega) (by omega),Int.toNat_of_nonneg hk.1]
 have e2:qM 4611686018427387904 (some (qS (t-fr).toNat++((if k=2 then qS w.toNat++qS hh.toNat else qbp d)++r)))=(t-fr,some ((if k=2 then qS w.toNat++qS hh.toNat else qbp d)++r)):=by
  rw[qa7 _ (by omega) (by omega),Int.toNat_of_nonneg (by omega)]
 unfold evR
 rw[e1]
 dsimp only
 rw[e2]
 dsimp only
 rw[show fr+(t-fr)=t by omega]
 rcases h3 with⟨rfl,hd,hw,hh'⟩|⟨hk3,rfl,rfl⟩
 ·rw[if_pos rfl,if_pos rfl,List.append_assoc,qa7 _ (by omega) (by omega),Int.toNat_of_nonneg (by omega)]
  dsimp only
  rw[qa7 _ (by omega) (by omega),Int.toNat_of_nonneg (by omega),<-bytes0 hd]
  dsimp only
  rw[if_pos ⟨rfl,h⟩]
 ·have hk2:¬k=2:=by omega
  rw[if_neg hk2,if_neg hk2,qcQ r (by decide) (by omega),qdu]
  dsimp only
  rw[if_pos ⟨rfl,h⟩]
theorem qeV {fr:Int}{e:Ev}(h:evB e=true)(h0:0<=fr):qaA (evI fr e):=by
 obtain⟨⟨h1,h2⟩,h3⟩:=qgI h
 unfold evI
 refine qj (qj (qo (by omega)) (qo (by omega))) ?_
 split
 ·exact qj (qo (by omega)) (qo (by omega))
 ·exact qdL (by omega)
theorem qe5 {fr:Int}{e:Ev}(h:evB e=true):(evI fr e).length<=450:=by
 obtain⟨⟨h1,h2⟩,h3⟩:=qgI h
 have l1:=qX e.kind.toNat
 have l2:=qX (e.time-fr).toNat
 have l3:=qX e.w.toNat
 have l4:=qX e.h.toNat
 have l5:=qfo e.data
 unfold evI
 rw[List.length_append,List.length_append]
 split
 ·rw[List.length_append];omega
 ·omega
abbrev tU8:TypeId:=5
abbrev tRdr:TypeId:=175
abbrev u8s (l:List Int):List Value:=l.map (Value.int .u8)
abbrev u64s (l:List Int):List Value:=l.map (Value.int .u64)
def qad (ns:List Int):List Int:=ns.flatMap fun x=>qS x.toNat
theorem qph {w:World}{b o:Nat}{l:List Int}(h:Rd w (some ⟨b,o,none⟩) (u8s l)){k:Nat}(hk:k<l.length):w.cell? ⟨b,o+((k:Nat):Int).toNat*1,none⟩=some (.int .u8 (l.getD k 0)):=by
 rw[Int.toNat_natCast,Nat.mul_one]
 refine qci h k _ ?_
 rw[List.getElem?_map,List.getElem?_eq_getElem hk]
 simp[List.getD,List.getElem?_eq_getElem hk]
theorem u64_cell {w:World}{b o:Nat}{l:List Int}(h:Rd w (some ⟨b,o,none⟩) (u64s l)){k:Nat}(hk:k<l.length):w.cell? ⟨b,o+((k:Nat):Int).toNat*1,none⟩=some (.int .u64 (l.getD k 0)):=by
 rw[Int.toNat_natCast,Nat.mul_one]
 refine qci h k _ ?_
 rw[List.getElem?_map,List.getElem?_eq_getElem hk]
 simp[List.getD,List.getElem?_eq_getElem hk]
theorem drop_at {l:List Int}{k:Nat}(hk:k<l.length):l.drop k=l.getD k 0::l.drop (k+1):=by
 rw[List.drop_eq_getElem_cons hk]
 simp[List.getD,List.getElem?_eq_getElem hk]
theorem qpi {l:List Int}{k:Nat}(hk:k<l.length):l.take (k+1)=l.take k++[l.getD k 0]:=by
 rw[List.take_succ_eq_append_getElem hk]
 simp[List.getD,List.getElem?_eq_getElem hk]
theorem qd2 {l:List Int}{k:Nat}(hk:k<l.length):l.getD k 0∈l:=by
 simp[List.getD,List.getElem?_eq_getElem hk]
theorem qni (l:List Int)(x:Int):qad (l++[x])=qad l++qS x.toNat:=by simp[qad]
structure RdrIn (w:World)(rv D:Nat)(a:Option Addr)(n cap:Nat)(ys:List Int)(bad:Bool):Prop where
 blk:Blk w rv [.slice a n cap,.bool bad] tRdr
 rd:Rd w a (u8s ys)
 len:ys.length=n
 le:n<=cap
 z:(n=0/\cap=0)\/ ∃o,a=some ⟨D,o,none⟩
 byt:qaA ys
 ne:¬rv=D
 big:n<=100000000
 dl:D<w.heap.size
def rsOf (bad:Bool)(ys:List Int):RS:=if bad=true then none else some ys
def RdrAt (w:World)(rv D:Nat)(s:RS):Prop:= ∃a n cap ys bad,RdrIn w rv D a n cap ys bad/\s=rsOf bad ys
section
variable {w w':World}{rv D:Nat}{a:Option Addr}{n cap:Nat}{ys:List Int}{bad:Bool}{s:RS}{B:Nat->Prop}
theorem RdrIn.rdch (h:RdrIn w rv D a n cap ys bad)(hc:Ch B w w')(h2:¬B D):Rd w' a (u8s ys):=by
 rcases h.z with⟨h0,_⟩|⟨o,rfl⟩
 ·obtain rfl:=List.eq_nil_of_length_eq_zero (h.len.trans h0)
  exact Rd.nil _ _
 ·exact h.rd.ch hc fun ad e=>by cases e;exact h2
theorem RdrIn.some (h:RdrIn w rv D a n cap ys bad)(hn:n≠0):∃o,a=Option.some ⟨D,o,none⟩:=by
 rcases h.z with⟨h,_⟩|h
 ·exact absurd h hn
 ·exact h
theorem RdrIn.ch (h:RdrIn w rv D a n cap ys bad)(hc:Ch B w w')(h1:¬B rv)(h2:¬B D):RdrIn w' rv D a n cap ys bad:=
 {h with
  blk:=h.blk.ch hc h1
  rd:=h.rdch hc h2
  dl:=Nat.lt_of_lt_of_le h.dl hc.size}
def RdrX (w:World)(rv D:Nat)(s:RS):Prop:= ∃a n cap ys bad,RdrIn w rv D a n cap ys bad/\s=rsOf bad ys/\(bad=true\/ ∃o,a=Option.some ⟨D,o,none⟩)
theorem RdrX.at (h:RdrX w rv D s):RdrAt w rv D s:=by
 obtain⟨a,n,cap,ys,bad,h,e,_⟩:=h
 exact⟨a,n,cap,ys,bad,h,e⟩
theorem RdrAt.ch (h:RdrAt w rv D s)(hc:Ch B w w')(h1:¬B rv)(h2:¬B D):RdrAt w' rv D s:=by
 obtain⟨a,n,cap,ys,bad,h,e⟩:=h
 exact⟨a,n,cap,ys,bad,h.ch hc h1 h2,e⟩
theorem RdrAt.lt (h:RdrAt w rv D s):rv<w.heap.size:=by
 obtain⟨a,n,cap,ys,bad,h,e⟩:=h
 exact h.blk.lt
theorem RdrAt.dlt (h:RdrAt w rv D s):D<w.heap.size:=by
 obtain⟨a,n,cap,ys,bad,h,e⟩:=h
 exact h.dl
theorem RdrAt.rs (h:RdrAt w rv D s):rsB s:=by
 obtain⟨a,n,cap,ys,bad,h,rfl⟩:=h
 intro zs e
 unfold rsOf at e
 split at e
 ·cases e
 ·obtain rfl:=Option.some.inj e
  exact h.byt
theorem RdrIn.spoil (h:RdrIn w rv D a n cap ys bad)(hc:Ch (fun j=>j=rv) w w')(hb:Blk w' rv [.slice a n cap,.bool true] tRdr):RdrX w' rv D none:=
 ⟨a,n,cap,ys,true,{h with
  blk:=hb
  rd:=h.rdch hc fun e=>h.ne e.symm
  dl:=Nat.lt_of_lt_of_le h.dl hc.size},rfl,.inl rfl⟩
theorem RdrIn.drop {o:Nat}(h:RdrIn w rv D (Option.some ⟨D,o,none⟩) n cap ys false)(k:Nat)(hk:k<=n)(hc:Ch (fun j=>j=rv) w w')(hb:Blk w' rv [.slice (Option.some ⟨D,if cap=k then o else o+k*1,none⟩) (n-k) (cap-k),.bool false] tRdr):RdrX w' rv D (Option.some (ys.drop k)):=by
 have hr:=h.rdch hc fun e=>h.ne e.symm
 refine⟨_,n-k,cap-k,ys.drop k,false,⟨hb,⟨(fun e=>by cases e),fun ad e j u hj=>?_⟩,by rw[List.length_drop,h.len],by have:=h.le;omega,.inr ⟨_,rfl⟩,qdp h.byt k,h.ne,by have:=h.big;omega,Nat.lt_of_lt_of_le h.dl hc.size⟩,rfl,.inr ⟨_,rfl⟩⟩
 cases e
 have hl:=(List.getElem?_eq_some_iff.1 hj).1
 rw[List.length_map,List.length_drop,h.len]at hl
 have hle:=h.le
 rw[if_neg (show¬cap=k by omega)]
 have:=hr.2 ⟨D,o,none⟩ rfl (k+j) u (by
  rw[u8s,List.getElem?_map,List.getElem?_drop,<-List.getElem?_map]at hj
  exact hj)
 rw[qb7]at this⊢
 rw[show o+k*1+j=o+(k+j) by omega]
 exact this
end
theorem numR_bad {lim:Int}{ys:List Int}:qM lim (rsOf true ys)=(0,none):=rfl
theorem ql6 {lim:Int}{ys:List Int}{bad:Bool}(h:(qa1 ys).2=0\/9223372036854775807<(qa1 ys).1\/(0<lim/\lim<=((qa1 ys).1:Int))):qM lim (rsOf bad ys)=(0,none):=by
 cases bad with
 |true=>rfl
 |false=>show(if _ then _ else _)=_;rw[if_pos h]
theorem qm4 {lim:Int}{ys:List Int}(h0:¬(qa1 ys).2=0)(h1:¬9223372036854775807<(qa1 ys).1)(h2:¬(0<lim/\lim<=((qa1 ys).1:Int))):qM lim (rsOf false ys)=(((qa1 ys).1:Int),some (ys.drop (qa1 ys).2)):=by
 show(if _ then _ else _)=_
 rw[if_neg (by rintro (h|h|h);exact h0 h;exact h1 h;exact h2 h)]
def NewA (A:Asn)(w w':World):Prop:=(∃F,A.P w' F/\ ∀b,F b->w.heap.size<=b/\b<w'.heap.size)/\Ch (fun _=>False) w w'
def qke (A A':Asn)(F:Nat->Prop)(w w':World):Prop:=A'.P w' (more F w w')/\Ch F w w'
section
variable {w0 w w':World}{F0 F:Nat->Prop}{l:List Asn}{A A':Asn}{i:Nat}
theorem Sep.addN (h:Sep w0 F0 w l)(hN:NewA A w w'):Sep w0 F0 w' (l++[A]):=by
 obtain⟨⟨G,h1,h2⟩,hc⟩:=hN
 exact h.add h1 h2 hc
theorem Sep.finN (h:Sep w0 (fun _=>False) w l)(i:Nat)(hi:l[i]? =some A:=by rfl):NewA A w0 w:=by
 obtain⟨F,h1,h2,h3⟩:=h.ex
 exact⟨⟨F i,h1 i A hi,fun b hb=>⟨(h3 i b hb).1.elim False.elim id,(h3 i b hb).2⟩⟩,h.ch⟩
theorem Sep.gz (h:Sep w0 F0 w l)(hg:Gz w0 F0)(hF:∀b,F b->(F0 b\/w0.heap.size<=b)/\b<w.heap.size):Gz w F:=
 ⟨Nat.le_trans hg.top h.ch.size,fun b hb=>⟨hg.gt (hF b hb).1,(hF b hb).2⟩⟩
theorem gz0 (h7:gTop<=w.heap.size):Gz w (fun _=>False):=⟨h7,fun _ h=>h.elim⟩
theorem Sep.stepA {P:Program}{k:FuncId}{args:Array Value}{v:Value}(h:Sep w0 F0 w l)(hg:Gz w0 F0)(i:Nat)(hk:∀F,A.P w F->Gz w F->Calls P k args w fun e w'=>e= .returned v/\qke A A' F w w')(hi:l[i]? =some A:=by rfl):Calls P k args w fun e w'=>e= .returned v/\Sep w0 F0 w' (l.set i A'):=
 h.step i (fun F hA hF=>hk F hA (h.gz hg hF)) hi
theorem Sep.finS (h:Sep w0 F0 w l)(hg:Gz w0 F0)(i:Nat)(hi:l[i]? =some A':=by rfl):qke A A' F0 w0 w:=h.fin hg hi
theorem Sep.startA {X:Type}{L:X->List Asn}(h:(qjC L).P w F)(hg:Gz w F):∃x,Sep w F w (L x):=Sep.startP h fun b hb=>(hg.lo b hb).2
end
abbrev qkf:TypeId:=132
abbrev tOne:TypeId:=151
def nmR:ByteArray:=⟨#[114]⟩
theorem nmR_ne:(nmR.toList==ByteArray.empty.toList)=false:=by simp[nmR,ByteArray.toList,ByteArray.toList.loop,ByteArray.size]
structure Fl where
 data:List Int
 sure:Int
structure St where
 file:Option Fl
 quota:Int
 armed:Bool
 left:Int
 down:Bool
structure StX where
 m:Nat
 f:Nat
 o:Option Nat
 n:Nat
 c:Nat
def St.vals (S:St)(m:Nat):List Value:=[.map (some m),.int .i64 S.quota,.bool S.armed,.int .i64 S.left,.bool S.down]
def oneE (f:Nat):List MapEntry:=[{key:= .string nmR,val:= .pointer (some ⟨f,0,none⟩),born:=0}]
def qfI (b:Nat)(S:St)(x:StX):List Asn:=
 match S.file with
 |none=>[qbr b (S.vals x.m) qkf,qkN x.m (.map (([]:List MapEntry).toArray) 0)]
 |some q=>[qbr b (S.vals x.m) qkf,qkN x.m (.map (oneE x.f).toArray 1),qbr x.f [.slice (x.o.map at0) x.n x.c,.int .i64 q.sure] tOne,qaz tU8 1 x.o x.n x.c (u8s q.data)]
def StRd (w:World)(b:Nat)(S:St)(x:StX):Prop:=
 match S.file with
 |none=>Blk w b (S.vals x.m) qkf/\Ob w x.m (.map (([]:List MapEntry).toArray) 0)
 |some q=>Blk w b (S.vals x.m) qkf/\Ob w x.m (.map (oneE x.f).toArray 1)/\Blk w x.f [.slice (x.o.map at0) x.n x.c,.int .i64 q.sure] tOne/\Own w tU8 1 x.o x.n x.c (u8s q.data)
abbrev qbf (b:Nat)(S:St):Asn:=qjC (qfI b S)
def usedI (S:St):Int:=match S.file with
 |none=>0
 |some q=>((q.data.length:Nat):Int)
theorem qm5 (a:Option Addr)(n cap:Nat)(us:List Int)(w:World)(hr:Rd w a (u8s us))(hl:us.length=n)(hz:n=0\/ ∃b o,a=some ⟨b,o,none⟩)(hb:qaA us)(hn:n<=1000000000):Calls Tryz.prog 86 [.slice a n cap].toArray w fun e w'=>e= .returned (.tuple #[.int .u64 ((qa1 us).1:Int),iX ((qa1 us).2:Int)])/\Ch (fun _=>False) w w':=by
 refine yA Tryz.func86 rfl<|yx 2<|yx 1<|ys<|yx 3<|qa<|qT [4,7,8,9] (f':=[(4,.int .u64 0),(7,.slice a n cap),(8,iX ((n:Nat):Int)),(9,iX 0)])<|qx (σ:=Nat×Int) (fun⟨k,x⟩=>[(4,.int .u64 x),(7,.slice a n cap),(8,iX ((n:Nat):Int)),(9,iX ((k:Nat):Int))]) (fun⟨k,x⟩ u=>k<=n/\qdc 0 0 us=qdc k x (us.drop k)/\Ch (fun _=>False) w u) (fun⟨k,x⟩=>n-k) (0,0) rfl ?_ ?_
 ·exact⟨Nat.zero_le _,rfl,Ch.refl _ _⟩
 intro p I D J C;obtain⟨k,x⟩:=p;obtain⟨hk,hG,g⟩:=D;have f:=zu (zm w) g iZ;have E:=Rd.ch hr g iZ;refine yx 1<|ys<|yc (rL ((k:Nat):Int) ((n:Nat):Int)) (fun F=>?_) fun F=>?_
 ·obtain⟨pb,po,rfl⟩:=hz.resolve_left (by omega);have G:=drop_at (l:=us) (k:=k) (by omega);have K:=hb _ (qd2 (l:=us) (k:=k) (by omega));rw[G]at hG;refine yk<|ys<|qa<|ysr<|yp 5 [] (.i ((k:Nat):Int) (n) (.l (o:=(po+(((k:Nat):Int)).toNat*1)) (qph E (k:=k) (by omega)) .z))<|ye<|ys<|ysr<|yq 3<|yw [16] (rE ((k:Nat):Int) 9) (fun h=>?_) fun h=>?_
  ·have L:=h;refine yq 7<|yw [20] (rL 1 (us.getD k 0)) (fun j=>?_) fun j=>?_
   ·have M:=j;refine yz 10<|yct<|yx 2<|q9 (rS (rB (rS (qt (rB (rS (yR2 [.int .u64 0,iX 0] .z ?_)))))));have hN:=qcA hb;rw[hG]at hN;rw[qdc]at hN
    first
     |(exfalso;omega)
     |(rw[if_pos (by omega)]at hN;obtain⟨c,d⟩:=Prod.mk.inj hN;exact⟨by rw[<-c,<-d],Up.ch f⟩)
     |(rw[if_neg (by omega),if_pos (by omega),if_pos (by omega)]at hN;obtain⟨c,d⟩:=Prod.mk.inj hN;exact⟨by rw[<-c,<-d],Up.ch f⟩)
     |(rw[if_neg (by omega),if_pos (by omega),if_neg (by omega)]at hN;obtain⟨c,d⟩:=Prod.mk.inj hN;exact⟨by rw[<-c,<-d],Up.ch f⟩)
   have N:=j;refine yz 10<|yc (rL 9 ((k:Nat):Int)) (fun m=>?_) fun m=>?_
   ·have O:=m;refine yx 2<|q9 (rS (rB (rS (qt (rB (rS (yR2 [.int .u64 0,iX 0] .z ?_)))))));have hN:=qcA hb;rw[hG]at hN;rw[qdc]at hN
    first
     |(exfalso;omega)
     |(rw[if_pos (by omega)]at hN;obtain⟨c,d⟩:=Prod.mk.inj hN;exact⟨by rw[<-c,<-d],Up.ch f⟩)
     |(rw[if_neg (by omega),if_pos (by omega),if_pos (by omega)]at hN;obtain⟨c,d⟩:=Prod.mk.inj hN;exact⟨by rw[<-c,<-d],Up.ch f⟩)
     |(rw[if_neg (by omega),if_pos (by omega),if_neg (by omega)]at hN;obtain⟨c,d⟩:=Prod.mk.inj hN;exact⟨by rw[<-c,<-d],Up.ch f⟩)
   have P:=m;refine yk<|ysr<|yp 9 [] (.q6 (7*((k:Nat):Int)) (.p (q:=0<=((7*((k:Nat):Int)):Int)) (by omega) .z))<|ye<|yx 2<|yc (rL (us.getD k 0) 128) (fun r=>?_) fun r=>?_
   ·have Q:=r;refine ys<|ysr<|yq 3<|yw [36] (rE (us.getD k 0) 0) (fun s=>?_) fun s=>?_
    ·have R:=s;refine yz 6<|yc (rL 0 ((k:Nat):Int)) (fun t=>?_) fun t=>?_
     ·have S:=t;refine yx 2<|q9 (rS (rB (rS (qt (rB (rS (yR2 [.int .u64 0,iX 0] .z ?_)))))));have hN:=qcA hb;rw[hG]at hN;rw[qdc]at hN
      first
       |(exfalso;omega)
       |(rw[if_pos (by omega)]at hN;obtain⟨c,d⟩:=Prod.mk.inj hN;exact⟨by rw[<-c,<-d],Up.ch f⟩)
       |(rw[if_neg (by omega),if_pos (by omega),if_pos (by omega)]at hN;obtain⟨c,d⟩:=Prod.mk.inj hN;exact⟨by rw[<-c,<-d],Up.ch f⟩)
       |(rw[if_neg (by omega),if_pos (by omega),if_neg (by omega)]at hN;obtain⟨c,d⟩:=Prod.mk.inj hN;exact⟨by rw[<-c,<-d],Up.ch f⟩)
     have T:=t;refine yk<|ysr<|yp 5 [] (.q6 (((k:Nat):Int)+1) .z)<|ye<|q9 (rB (rS (qt (rB (rS (yR2 [.int .u64 (qe .or .u64 x (IntKind.wrap .u64 ((IntKind.wrap .u64 (qe .and .u8 (us.getD k 0) 127))*2^min ((7*((k:Nat):Int)):Int).toNat (IntKind.bits .u64)))),iX (((k:Nat):Int)+1)] .z ?_))))));have hN:=qcA hb;rw[hG]at hN;rw[qdc]at hN
     first
      |(exfalso;omega)
      |(rw[if_pos (by omega)]at hN;obtain⟨c,d⟩:=Prod.mk.inj hN;exact⟨by rw[<-c,<-d],Up.ch f⟩)
      |(rw[if_neg (by omega),if_pos (by omega),if_pos (by omega)]at hN;obtain⟨c,d⟩:=Prod.mk.inj hN;exact⟨by rw[<-c,<-d],Up.ch f⟩)
      |(rw[if_neg (by omega),if_pos (by omega),if_neg (by omega)]at hN;obtain⟨c,d⟩:=Prod.mk.inj hN;exact⟨by rw[<-c,<-d],Up.ch f⟩)
    have U:=s;refine yz 6<|ycf<|yk<|ysr<|yp 5 [] (.q6 (((k:Nat):Int)+1) .z)<|ye<|q9 (rB (rS (qt (rB (rS (yR2 [.int .u64 (qe .or .u64 x (IntKind.wrap .u64 ((IntKind.wrap .u64 (qe .and .u8 (us.getD k 0) 127))*2^min ((7*((k:Nat):Int)):Int).toNat (IntKind.bits .u64)))),iX (((k:Nat):Int)+1)] .z ?_))))));have hN:=qcA hb;rw[hG]at hN;rw[qdc]at hN
    first
     |(exfalso;omega)
     |(rw[if_pos (by omega)]at hN;obtain⟨c,d⟩:=Prod.mk.inj hN;exact⟨by rw[<-c,<-d],Up.ch f⟩)
     |(rw[if_neg (by omega),if_pos (by omega),if_pos (by omega)]at hN;obtain⟨c,d⟩:=Prod.mk.inj hN;exact⟨by rw[<-c,<-d],Up.ch f⟩)
     |(rw[if_neg (by omega),if_pos (by omega),if_neg (by omega)]at hN;obtain⟨c,d⟩:=Prod.mk.inj hN;exact⟨by rw[<-c,<-d],Up.ch f⟩)
   have V:=r;refine qk (nB (nS ?_));refine q7<|yp 2 [] (.q6 (((k:Nat):Int)+1) .z)<|yE (fun a ha=>C (k+1,orT x (us.getD k 0) k) _ ⟨by omega,by rw[hG,qdc,if_neg (by omega),if_neg (by omega)],g⟩ (by show n-(k+1)<n-k;omega) a (ha.kp [4,7,8,9]))
  have W:=h;refine yz 10<|yc (rL 9 ((k:Nat):Int)) (fun v=>?_) fun v=>?_
  ·have X:=v;refine yx 2<|q9 (rS (rB (rS (qt (rB (rS (yR2 [.int .u64 0,iX 0] .z ?_)))))));have hN:=qcA hb;rw[hG]at hN;rw[qdc]at hN
   first
    |(exfalso;omega)
    |(rw[if_pos (by omega)]at hN;obtain⟨c,d⟩:=Prod.mk.inj hN;exact⟨by rw[<-c,<-d],Up.ch f⟩)
    |(rw[if_neg (by omega),if_pos (by omega),if_pos (by omega)]at hN;obtain⟨c,d⟩:=Prod.mk.inj hN;exact⟨by rw[<-c,<-d],Up.ch f⟩)
    |(rw[if_neg (by omega),if_pos (by omega),if_neg (by omega)]at hN;obtain⟨c,d⟩:=Prod.mk.inj hN;exact⟨by rw[<-c,<-d],Up.ch f⟩)
  have Y:=v;refine yk<|ysr<|yp 9 [] (.q6 (7*((k:Nat):Int)) (.p (q:=0<=((7*((k:Nat):Int)):Int)) (by omega) .z))<|ye<|yx 2<|yc (rL (us.getD k 0) 128) (fun y=>?_) fun y=>?_
  ·have Z:=y;refine ys<|ysr<|yq 3<|yw [36] (rE (us.getD k 0) 0) (fun A=>?_) fun A=>?_
   ·have a0:=A;refine yz 6<|yc (rL 0 ((k:Nat):Int)) (fun B=>?_) fun B=>?_
    ·have a1:=B;refine yx 2<|q9 (rS (rB (rS (qt (rB (rS (yR2 [.int .u64 0,iX 0] .z ?_)))))));have hN:=qcA hb;rw[hG]at hN;rw[qdc]at hN
     first
      |(exfalso;omega)
      |(rw[if_pos (by omega)]at hN;obtain⟨c,d⟩:=Prod.mk.inj hN;exact⟨by rw[<-c,<-d],Up.ch f⟩)
      |(rw[if_neg (by omega),if_pos (by omega),if_pos (by omega)]at hN;obtain⟨c,d⟩:=Prod.mk.inj hN;exact⟨by rw[<-c,<-d],Up.ch f⟩)
      |(rw[if_neg (by omega),if_pos (by omega),if_neg (by omega)]at hN;obtain⟨c,d⟩:=Prod.mk.inj hN;exact⟨by rw[<-c,<-d],Up.ch f⟩)
    have a2:=B;refine yk<|ysr<|yp 5 [] (.q6 (((k:Nat):Int)+1) .z)<|ye<|q9 (rB (rS (qt (rB (rS (yR2 [.int .u64 (qe .or .u64 x (IntKind.wrap .u64 ((IntKind.wrap .u64 (qe .and .u8 (us.getD k 0) 127))*2^min ((7*((k:Nat):Int)):Int).toNat (IntKind.bits .u64)))),iX (((k:Nat):Int)+1)] .z ?_))))));have hN:=qcA hb;rw[hG]at hN;rw[qdc]at hN
    first
     |(exfalso;omega)
     |(rw[if_pos (by omega)]at hN;obtain⟨c,d⟩:=Prod.mk.inj hN;exact⟨by rw[<-c,<-d],Up.ch f⟩)
     |(rw[if_neg (by omega),if_pos (by omega),if_pos (by omega)]at hN;obtain⟨c,d⟩:=Prod.mk.inj hN;exact⟨by rw[<-c,<-d],Up.ch f⟩)
     |(rw[if_neg (by omega),if_pos (by omega),if_neg (by omega)]at hN;obtain⟨c,d⟩:=Prod.mk.inj hN;exact⟨by rw[<-c,<-d],Up.ch f⟩)
   have a3:=A;refine yz 6<|ycf<|yk<|ysr<|yp 5 [] (.q6 (((k:Nat):Int)+1) .z)<|ye<|q9 (rB (rS (qt (rB (rS (yR2 [.int .u64 (qe .or .u64 x (IntKind.wrap .u64 ((IntKind.wrap .u64 (qe .and .u8 (us.getD k 0) 127))*2^min ((7*((k:Nat):Int)):Int).toNat (IntKind.bits .u64)))),iX (((k:Nat):Int)+1)] .z ?_))))));have hN:=qcA hb;rw[hG]at hN;rw[qdc]at hN
   first
    |(exfalso;omega)
    |(rw[if_pos (by omega)]at hN;obtain⟨c,d⟩:=Prod.mk.inj hN;exact⟨by rw[<-c,<-d],Up.ch f⟩)
    |(rw[if_neg (by omega),if_pos (by omega),if_pos (by omega)]at hN;obtain⟨c,d⟩:=Prod.mk.inj hN;exact⟨by rw[<-c,<-d],Up.ch f⟩)
    |(rw[if_neg (by omega),if_pos (by omega),if_neg (by omega)]at hN;obtain⟨c,d⟩:=Prod.mk.inj hN;exact⟨by rw[<-c,<-d],Up.ch f⟩)
  have a4:=y;refine qk (nB (nS ?_));refine q7<|yp 2 [] (.q6 (((k:Nat):Int)+1) .z)<|yE (fun a ha=>C (k+1,orT x (us.getD k 0) k) _ ⟨by omega,by rw[hG,qdc,if_neg (by omega),if_neg (by omega)],g⟩ (by show n-(k+1)<n-k;omega) a (ha.kp [4,7,8,9]))
 have H:k=n:=by omega
 refine ql (eS (qd (qb (nS ?_))));refine yx 2<|q9 (yR2 [.int .u64 0,iX 0] .z ?_);have hN:=qcA hb;rw[hG]at hN;rw[H,List.drop_eq_nil_of_le (by omega),qdc]at hN;obtain⟨c,d⟩:=Prod.mk.inj hN;exact⟨by rw[<-c,<-d],Up.ch f⟩
theorem putV_any (o:Option Nat)(n cap:Nat)(xs:List Int)(lb k:Nat)(ns:List Int)(w:World)(hO:Own w tU8 1 o n cap (u8s xs))(hr:Rd w (some ⟨lb,0,none⟩) (u64s ns))(hk:ns.length=k)(hv:∀x∈ns,0<=x/\x<=18446744073709551615)(hlb:lb<w.heap.size)(hne:∀b,o=some b-> ¬b=lb)(hz:n+10*k<=1000000000):Calls Tryz.prog 55 [.slice (o.map at0) n cap,.slice (some ⟨lb,0,none⟩) k k].toArray w fun e w'=>
 ∃o' n' cap',e= .returned (.slice (o'.map at0) n' cap')/\Own w' tU8 1 o' n' cap' (u8s (xs++qad ns))/\n'<=n+10*k/\App w w' o o':=by
 refine yA Tryz.func55 rfl<|yx 1<|ys<|yx 3<|qa<|qT [0,7,8,9] (f':=[(0,.slice (o.map at0) n cap),(7,.slice (some ⟨lb,0,none⟩) k k),(8,iX ((k:Nat):Int)),(9,iX 0)])<|qx (σ:=Nat×Option Nat×Nat×Nat) (fun⟨j,g,d,m⟩=>[(0,.slice (g.map at0) d m),(7,.slice (some ⟨lb,0,none⟩) k k),(8,iX ((k:Nat):Int)),(9,iX ((j:Nat):Int))]) (fun⟨j,g,d,m⟩ u=>j<=k/\Own u tU8 1 g d m (u8s (xs++qad (ns.take j)))/\App w u o g/\d<=n+10*j) (fun⟨j,g,d,m⟩=>k-j) (0,o,n,cap) rfl ?_ ?_
 ·exact⟨Nat.zero_le _,by simpa[qad]using hO,App.refl _ _,Nat.le_refl _⟩
 intro p ad L ae M;obtain⟨j,g,d,m⟩:=p;obtain⟨hj,A,v,af⟩:=L;have N:=Ch.rd v.ch hr (fun h=>hne _ h rfl);have ag:=Nat.lt_of_lt_of_le hlb v.ch.size;refine yx 1<|ys<|yc (rL ((j:Nat):Int) ((k:Nat):Int)) (fun B=>?_) fun B=>?_
 ·have ah:=B;have ai:=hv _ (qd2 (l:=ns) (k:=j) (by omega));refine yk<|ys<|qa<|ysr<|yp 3 [] (.i ((j:Nat):Int) (k) (.l (o:=(0+(((j:Nat):Int)).toNat*1)) (u64_cell N (k:=j) (by omega)) .z))<|ye<|ys<|qa<|qT [0,6,7,8,9] (f':=[(0,.slice (g.map at0) d m),(6,.int .u64 (ns.getD j 0)),(7,.slice (some ⟨lb,0,none⟩) k k),(8,iX ((k:Nat):Int)),(9,iX ((j:Nat):Int))])<|qx (σ:=Int×Nat×List Int×Option Nat×Nat×Nat) (fun⟨x,f,zs,r,c,s⟩=>[(0,.slice (r.map at0) c s),(6,.int .u64 x),(7,.slice (some ⟨lb,0,none⟩) k k),(8,iX ((k:Nat):Int)),(9,iX ((j:Nat):Int))]) (fun⟨x,f,zs,r,c,s⟩ u=>0<=x/\x.toNat<128^(f+1)/\zs++qhP f x.toNat=(xs++qad (ns.take j))++qS (ns.getD j 0).toNat/\Own u tU8 1 r c s (u8s zs)/\App w u o r/\c+f+1<=d+10) (fun⟨x,f,zs,r,c,s⟩=>x.toNat) (ns.getD j 0,9,xs++qad (ns.take j),g,d,m) rfl ?_ ?_
  ·exact⟨by omega,by have O:(128:Nat)^(9+1)=1180591620717411303424:=(by decide);rw[O];omega,rfl,A,v,by omega⟩
  intro q aj P ak Q;obtain⟨x,f,zs,r,c,s⟩:=q;obtain⟨al,R,E,y,F,am⟩:=P;refine ys<|yx 2<|yc (rM 128 x) (fun C=>?_) fun C=>?_
  ·have an:=C;refine yk<|ys<|qa<|q7<|yq 4<|yo (yB [uX (qe .or .u8 (IntKind.wrap .u8 x) 128)] 5 1 fun ao G ap aq S H=>?_);have ar:=zv (b:=G) y;have T:=y.ch H iZ;have U:=F.step H iZ;refine yo (qaD 5 1 1 r c s (u8s zs) (some ⟨G,0,none⟩) 1 1 [uX (qe .or .u8 (IntKind.wrap .u8 x) 128)] (some 22) (c+1) rfl (u8s (zs++[(qe .or .u8 (IntKind.wrap .u8 x) 128)])) (by rw[u8s,u8s,List.map_append];rfl) (by kernel_rfl) T (Rd.all S) rfl rfl (fun h=>by cases h) (by constructor<;>first|omega|(simp only[maxLen];omega)) ?_);intro au V W X Y av Z;have a0:=U.trans (App.of Y Z);refine yq 7<|yE (nB (nS ?_));refine q7<|yp 3 [] (.p (q:=0<=(7:Int)) (by omega) .z) ?_;obtain⟨f,rfl⟩:∃f',f=f'+1:=by
    cases f with
    |zero=>exfalso;have:x.toNat<128:=R;omega
    |succ f=>exact⟨f,rfl⟩
   have D:x=((x.toNat:Nat):Int):=by omega
   have t:=shr7_eq x.toNat;have I:=low7_eq x.toNat;rw[<-D]at t I;have aw:128^(f+1+1)=128^(f+1)*128:=rfl;have hq:zs++[low7 x]++qhP f (shr7 x).toNat=(xs++qad (ns.take j))++qS (ns.getD j 0).toNat:=by rw[<-E,qeM (by omega),t,I,Int.toNat_natCast,List.append_assoc];rfl
   refine yE (fun a ha=>Q (shr7 x,f,zs++[low7 x],V,(c+1),W) _ ⟨by rw[t];omega,by rw[t];omega,hq,X,a0,by omega⟩ (by show(shr7 x).toNat<x.toNat;rw[t];omega) a (ha.kp [0,6,7,8,9]))
  have ax:=C;have D:x=((x.toNat:Nat):Int):=by omega
  have a1:IntKind.wrap .u8 x=((x.toNat:Nat):Int):=by rw[D,wrap8];congr 1;omega
  have a2:zs++[IntKind.wrap .u8 x]=(xs++qad (ns.take j))++qS (ns.getD j 0).toNat:=by rw[<-E,qcM (by omega),a1]
  refine ql (eS (qd (qb (nS ?_))));refine q7<|yq 3<|yo (yB [uX (IntKind.wrap .u8 x)] 5 1 fun ay J az aA a3 K=>?_);have aB:=zv (b:=J) y;have a4:=y.ch K iZ;have a5:=F.step K iZ;refine yo (qaD 5 1 1 r c s (u8s zs) (some ⟨J,0,none⟩) 1 1 [uX (IntKind.wrap .u8 x)] (some 27) (c+1) rfl (u8s (zs++[(IntKind.wrap .u8 x)])) (by rw[u8s,u8s,List.map_append];rfl) (by kernel_rfl) a4 (Rd.all a3) rfl rfl (fun h=>by cases h) (by constructor<;>first|omega|(simp only[maxLen];omega)) ?_);intro aC a6 a7 a8 a9 aD aa;have ab:=a5.trans (App.of a9 aa);refine yq 6<|yE (nB (nS ?_));refine q7<|yp 2 [] (.q6 (((j:Nat):Int)+1) .z)<|yE (fun a ha=>M (j+1,a6,(c+1),a7) _ ⟨by omega,by rw[qpi (by omega),qni,<-List.append_assoc,<-a2];exact a8,ab,by omega⟩ (by show k-(j+1)<k-j;omega) a (ha.kp [0,7,8,9]))
 have aE:=B;have ac:j=k:=by omega
 refine ql (eS (qd (qb (nS ?_))));refine yx 2<|q9 (yR1 (.slice (g.map at0) d m) ?_);exact⟨_,_,_,rfl,by rw[ac,<-hk,List.take_length]at A;exact A,by omega,v⟩
theorem bN:∀x∈([]:List Int),0<=x/\x<=18446744073709551615:=fun x h=>by cases h
theorem bC {x:Int}{l:List Int}(t:∀y∈l,0<=y/\y<=18446744073709551615)(h:0<=x:=by omega)(h':x<=18446744073709551615:=by omega):∀y∈x::l,0<=y/\y<=18446744073709551615:=fun y hy=>(List.mem_cons.1 hy).elim (fun e=>e▸⟨h,h'⟩) (t y)
theorem qcB {o:Option Nat}{n cap lb:Nat}{xs:List Int}{w:World}(k:Nat)(ns:List Int)(hO:Own w tU8 1 o n cap (u8s xs))(hr:Rd w (some ⟨lb,0,none⟩) (u64s ns))(hv:∀x∈ns,0<=x/\x<=18446744073709551615)(hlb:lb<w.heap.size)(hne:∀b,o=some b-> ¬b=lb)(hk:ns.length=k:=by rfl)(hz:n+10*k<=1000000000:=by omega):Calls Tryz.prog 55 [.slice (o.map at0) n cap,.slice (some ⟨lb,0,none⟩) k k].toArray w fun e w'=>
    ∃o' n' cap',e= .returned (.slice (o'.map at0) n' cap')/\Own w' tU8 1 o' n' cap' (u8s (xs++qad ns))/\n'<=n+10*k/\App w w' o o':=putV_any o n cap xs lb k ns w hO hr hk hv hlb hne hz
theorem rdr_len0 {us:List Int}{n:Nat}(h:us.length=n)(hk:¬(((qa1 us).2:Nat):Int)=0):n≠0:=by
 rintro rfl;obtain rfl:=List.eq_nil_of_length_eq_zero h;exact hk rfl
theorem qm6 {rv D:Nat}{s0 s1:RS}{lim x:Int}{w:World}(hA:RdrAt w rv D s0)(hN:qM lim s0=(x,s1))(hlim:lim<=9223372036854775807):Calls Tryz.prog 94 [pX rv,iX lim].toArray w fun e w'=>e= .returned (iX x)/\RdrX w' rv D s1/\Ch (· =rv) w w':=by
 obtain⟨a,n,b,us,g,hI,rfl⟩:=hA;refine yA Tryz.func94 rfl<|yx 1<|ysr<|yp 4 [] (.l (hI.blk.c 0) .z)<|yo (yQ (qm5 a n b us _ hI.rd hI.len (hI.z.imp (fun h=>h.1) (fun h=>⟨_,h⟩)) hI.byt (by have:=hI.big;omega)) fun G u=>?_);have f:Ch (· =rv) w G:=zt (Ch.refl (· =rv) w) u eZ;have d:=hI.blk.ch u id;refine yz 10<|ys<|ysr<|yp 5 [] (.l (d.c 1) .z)<|yw [19] (rY g) (fun k=>?_) fun k=>?_
 ·have H:=k;refine yz 22<|yct<|ysr<|yq 3<|yo (yT [.slice a n b,.bool true] d fun I J K=>?_);have v:Ch (· =rv) w I:=zt f K iZ;refine ye<|yx 1<|q9 (rS (yR1 (iX 0) ?_));subst H;rw[numR_bad]at hN;obtain⟨rfl,rfl⟩:=Prod.mk.inj hN;exact⟨rfl,hI.spoil v J,v⟩
 have y:=k;refine yq 9<|yw [23] (rE (((qa1 us).2:Nat):Int) 0) (fun m=>?_) fun m=>?_
 ·have a1:=m;refine yz 22<|yct<|ysr<|yq 3<|yo (yT [.slice a n b,.bool true] d fun L M N=>?_);have A:Ch (· =rv) w L:=zt f N iZ;refine ye<|yx 1<|q9 (rS (yR1 (iX 0) ?_));rw[ql6 (.inl (by omega))]at hN;obtain⟨rfl,rfl⟩:=Prod.mk.inj hN;exact⟨rfl,hI.spoil A M,A⟩
 have O:=m;have o:=(qlV hI.byt).1;rw[hI.len]at o;obtain⟨ao,rfl⟩:=hI.some (rdr_len0 hI.len O);refine yq 13<|yw [27] (rL 9223372036854775807 (((qa1 us).1:Nat):Int)) (fun r=>?_) fun r=>?_
 ·have a2:=r;refine yz 22<|yct<|ysr<|yq 3<|yo (yT [.slice (some ⟨D,ao,none⟩) n b,.bool true] d fun P Q R=>?_);have B:Ch (· =rv) w P:=zt f R iZ;refine ye<|yx 1<|q9 (rS (yR1 (iX 0) ?_));rw[ql6 (.inr (.inl (by omega)))]at hN;obtain⟨rfl,rfl⟩:=Prod.mk.inj hN;exact⟨rfl,hI.spoil B Q,B⟩
 have a3:=r;refine yq 16<|yw [30] (rL 0 lim) (fun s=>?_) fun s=>?_
 ·have a4:=s;refine yp 22 [18] (.p (q:=InR .u64 lim) (qam (by omega) (by omega)) .z)<|ye<|yc (rM lim (((qa1 us).1:Nat):Int)) (fun t=>?_) fun t=>?_
  ·have a5:=t;refine ysr<|yq 3<|yo (yT [.slice (some ⟨D,ao,none⟩) n b,.bool true] d fun S T U=>?_);have C:Ch (· =rv) w S:=zt f U iZ;refine ye<|yx 1<|q9 (rS (yR1 (iX 0) ?_));rw[ql6 (.inr (.inr ⟨by omega,by omega⟩))]at hN;obtain⟨rfl,rfl⟩:=Prod.mk.inj hN;exact⟨rfl,hI.spoil C T,C⟩
  have a6:=t;refine yk<|ysr<|yp 9 [] (.l (d.c 0) (.j (((qa1 us).2:Nat):Int) (n) .z))<|yo (yT [.slice (some ⟨D,(if b=((((qa1 us).2:Nat):Int):Int).toNat then ao else ao+((((qa1 us).2:Nat):Int):Int).toNat*1),none⟩) (n-((((qa1 us).2:Nat):Int):Int).toNat) (b-((((qa1 us).2:Nat):Int):Int).toNat),.bool g] d fun V W X=>?_);have E:Ch (· =rv) w V:=zt f X iZ;refine ye<|ysr<|yp 3 [] (.q6 (((qa1 us).1:Nat):Int) .z)<|ye<|q9 (yR1 (iX (((qa1 us).1:Nat):Int)) ?_);obtain rfl:g=false:=y;rw[qm4 (by omega) (by omega) (by omega)]at hN;obtain⟨rfl,rfl⟩:=Prod.mk.inj hN;have i:=W;rw[Int.toNat_natCast]at i;exact⟨rfl,hI.drop _ o E i,E⟩
 have a7:=s;refine yz 22<|ycf<|yk<|ysr<|yp 9 [] (.l (d.c 0) (.j (((qa1 us).2:Nat):Int) (n) .z))<|yo (yT [.slice (some ⟨D,(if b=((((qa1 us).2:Nat):Int):Int).toNat then ao else ao+((((qa1 us).2:Nat):Int):Int).toNat*1),none⟩) (n-((((qa1 us).2:Nat):Int):Int).toNat) (b-((((qa1 us).2:Nat):Int):Int).toNat),.bool g] d fun Y Z a0=>?_);have F:Ch (· =rv) w Y:=zt f a0 iZ;refine ye<|ysr<|yp 3 [] (.q6 (((qa1 us).1:Nat):Int) .z)<|ye<|q9 (yR1 (iX (((qa1 us).1:Nat):Int)) ?_);obtain rfl:g=false:=y;rw[qm4 (by omega) (by omega) (by omega)]at hN;obtain⟨rfl,rfl⟩:=Prod.mk.inj hN;have i:=Z;rw[Int.toNat_natCast]at i;exact⟨rfl,hI.drop _ o F i,F⟩
theorem qY {rv D:Nat}{s0 s1:RS}{lim x:Int}{w:World}(hA:RdrAt w rv D s0)(hN:qM lim s0=(x,s1))(hlim:lim<=9223372036854775807):Calls Tryz.prog 94 [pX rv,iX lim].toArray w fun e w'=>e= .returned (iX x)/\RdrAt w' rv D s1/\Ch (· =rv) w w':=(qm6 hA hN hlim).mono fun _ _ h=>⟨h.1,h.2.1.at,h.2.2⟩
theorem qg8 {rv D:Nat}{s0:RS}{w:World}(hA:RdrAt w rv D s0):Calls Tryz.prog 95 [pX rv].toArray w fun e w'=>e= .returned (.bool s0.isSome)/\Ch (fun _=>False) w w':=by
 obtain⟨a,n,d,us,b,hI,rfl⟩:=hA;refine yA Tryz.func95 rfl<|yx 1<|ysr<|yp 6 [] (.l (hI.blk.c 1) .z)<|ye<|q9 (yR1 (.bool (!b)) ?_);refine⟨zc ?_,(Ch.refl _ _)⟩;unfold rsOf;cases b<;>rfl
theorem qm7 {rv D:Nat}{s0:RS}{w:World}(hA:RdrAt w rv D s0):Calls Tryz.prog 65 [pX rv].toArray w fun e w'=>e= .returned (.bool (decide (s0=some [])))/\Ch (fun _=>False) w w':=by
 obtain⟨a,n,g,us,b,hI,rfl⟩:=hA;refine yA Tryz.func65 rfl<|yx 1<|ysr<|yp 6 [] (.l (hI.blk.c 1) .z)<|yw [8] (rN (rY b)) (fun d=>?_) fun d=>?_
 ·refine yp 14 [] (.l (hI.blk.c 0) .z)<|ye<|q9 (yR1 (.bool ((((n:Nat):Int):Int)==0)) ?_);refine⟨zc ?_,(Ch.refl _ _)⟩;have f:=hI.len;unfold rsOf;cases b<;>cases us<;>simp_all<;>omega
 refine yz 14<|q9 (yR1 (.bool false) ?_);refine⟨zc ?_,(Ch.refl _ _)⟩;have f:=hI.len;unfold rsOf;cases b<;>cases us<;>simp_all<;>omega
theorem of_any (D:Nat)(a:Option Addr)(n cap:Nat)(us:List Int)(w:World)(hr:Rd w a (u8s us))(hl:us.length=n)(hle:n<=cap)(hz:(n=0/\cap=0)\/ ∃o,a=some ⟨D,o,none⟩)(hb:qaA us)(hn:n<=100000000)(hD:D<w.heap.size):Calls Tryz.prog 63 [.slice a n cap].toArray w fun e w'=> ∃rv,e= .returned (pX rv)/\w.heap.size<=rv/\RdrAt w' rv D (some us)/\Ch (fun _=>False) w w':=by
 refine yA Tryz.func63 rfl<|yx 1<|ysr<|yq 2<|yo (yN [.slice a n cap,.bool false] 175 fun h d f i c g=>?_);have j:=zn f (zm w);have b:=zu (zm w) g iZ;refine yz 4<|q9 (yR1 (pX d) ?_);exact⟨_,rfl,by have:=c.lt;have:=zzs (Up.ch b);omega,⟨a,n,cap,us,false,⟨c,hr.ch (Up.ch b) iZ,hl,hle,hz,hb,by omega,hn,Nat.lt_of_lt_of_le hD (zzs (Up.ch b))⟩,rfl⟩,Up.ch b⟩
theorem rd_front {w:World}{a:Option Addr}{xs ys:List Value}(h:Rd w a (xs++ys)):Rd w a xs:=
  ⟨fun e=>(List.append_eq_nil_iff.1 (h.1 e)).1,fun ad e j u hj=>h.2 ad e j u (by rw[List.getElem?_append_left (List.getElem?_eq_some_iff.1 hj).1];exact hj)⟩
theorem qcR {rv D:Nat}{s0 s1:RS}{most:Int}{x:ByteArray}{w:World}(hA:RdrAt w rv D s0)(hX:qb4 most s0=(x,s1))(hm:0<most/\most<=1000000):Calls Tryz.prog 92 [pX rv,iX most].toArray w fun e w'=>e= .returned (.string x)/\RdrAt w' rv D s1/\Ch (· =rv) w w':=by
 obtain⟨k,S⟩:=hm;refine yA Tryz.func92 rfl<|yx 1<|yx 1<|ys<|yx 2<|yc (rL 0 most) (fun m=>?_) fun m=>?_
 ·have T:=m;refine q7<|yp 3 [] (.q6 (most+1) .z)<|ye<|ysr<|yq 2 ?_;obtain⟨a,U,f⟩:∃x s',qM ((most+1)) s0=(x,s'):=⟨_,_,rfl⟩
  have u:=qa6 (lim:=(most+1)) (s:=s0);rw[f]at u;dsimp only at u;refine yo (yQ (qm6 (lim:=(most+1)) hA f (by omega)) ?_);rintro v ⟨E,F⟩;have n:Ch (· =rv) w v:=zt (Ch.refl (· =rv) w) F iZ;obtain⟨y,g,d,vs,i,b,o,G⟩:=E;refine yz 4<|ys<|ysr<|yp 5 [] (.l (b.blk.c 1) .z)<|yw [19] (rY i) (fun p=>?_) fun p=>?_
  ·have H:=p;refine yz 13<|yct<|ysr<|yq 3<|yo (yT [.slice y g d,.bool true] b.blk fun I J A=>?_);have K:Ch (· =rv) w I:=zt n A iZ;refine ye<|yx 1<|q9 (rS (yR1 (oX) ?_));unfold qb4 at hX;rw[if_pos k,f]at hX;obtain rfl:i=true:=H;rw[o]at hX;obtain⟨rfl,rfl⟩:=Prod.mk.inj hX;exact⟨rfl,(b.spoil (A) J).at,K⟩
  have q:=p;refine yp 13 [] (.l (b.blk.c 0) .z)<|ye<|yc (rL ((g:Nat):Int) a) (fun r=>?_) fun r=>?_
  ·have V:=r;refine ysr<|yq 3<|yo (yT [.slice y g d,.bool true] b.blk fun L M B=>?_);have N:Ch (· =rv) w L:=zt n B iZ;refine ye<|yx 1<|q9 (rS (yR1 (oX) ?_));unfold qb4 at hX;rw[if_pos k,f]at hX;have t:i=false:=q;rw[o,t]at hX;have hX:(if(vs.length:Int)<a then(E0,none)else(qf (vs.take (a:Int).toNat),some (vs.drop (a:Int).toNat)))=(x,s1):=hX;rw[if_pos (by rw[b.len];omega)]at hX;obtain⟨rfl,rfl⟩:=Prod.mk.inj hX;exact⟨rfl,(b.spoil (B) M).at,N⟩
  have W:=r;have X:=b.len;have Y:=b.le;obtain⟨ao,rfl⟩:=G.resolve_left (fun h=>absurd (q.symm.trans h) (by decide));refine id ?_;refine yk<|ysr<|yp 6 [] (.l (b.blk.c 0) (.j a (d) .z)) ?_;have O:Rd v (some ⟨D,ao,none⟩) ((vs.take (a:Int).toNat).map (Value.int .u8)):=by
   have h:=b.rd;rw[u8s,<-List.take_append_drop (a:Int).toNat vs,List.map_append]at h;exact rd_front h
  refine yo (qp (some ⟨D,ao,none⟩) (a:Int).toNat d (vs.take (a:Int).toNat) (some 37) (by kernel_rfl) O (by rw[List.length_take];omega) ?_);refine yz 8<|ysr<|yp 9 [] (.l (b.blk.c 0) (.j a (g) .z))<|yo (yT [.slice (some ⟨D,(if d=(a:Int).toNat then ao else ao+(a:Int).toNat*1),none⟩) (g-(a:Int).toNat) (d-(a:Int).toNat),.bool i] b.blk fun P Q C=>?_);have R:Ch (· =rv) w P:=zt n C iZ;refine ye<|yx 2<|q9 (yR1 (.string (qf (vs.take (a:Int).toNat))) ?_);unfold qb4 at hX;rw[if_pos k,f]at hX;have t:i=false:=q;subst t;rw[o]at hX;have hX:(if(vs.length:Int)<a then(E0,none)else(qf (vs.take (a:Int).toNat),some (vs.drop (a:Int).toNat)))=(x,s1):=hX;rw[if_neg (by rw[b.len];omega)]at hX;obtain⟨rfl,rfl⟩:=Prod.mk.inj hX;exact⟨rfl,(b.drop _ (by omega) C Q).at,R⟩
 have Z:=m;exfalso;omega
theorem app_bytV (xs:List Int)(x:ByteArray):u8s xs++qfC x=u8s (xs++qaW x):=by
 unfold u8s qfC qaW;rw[List.map_append,List.map_map];rfl
theorem qgJ (x:Int):qad [x]=qS x.toNat:=by simp[qad]
theorem qaP {o:Option Nat}{n cap:Nat}{xs:List Int}{w:World}(hO:Own w tU8 1 o n cap (u8s xs))(x:ByteArray)(hz:n+10+x.size<=1000000000):Calls Tryz.prog 60 [.slice (o.map at0) n cap,.string x].toArray w fun e w'=> ∃o' n' cap',e= .returned (.slice (o'.map at0) n' cap')/\Own w' tU8 1 o' n' cap' (u8s (xs++qbp x))/\n'<=n+(10+x.size)/\App w w' o o':=by
 refine yA Tryz.func60 rfl<|yx 1<|ysr<|yp 4 [3] (.p (q:=InR .u64 ((x).size:Int)) (qam (by omega) (by omega)) .z)<|yo (yB [.int .u64 ((x).size:Int)] 110 1 fun D k E F a g=>?_);have c:=zv (b:=k) hO;have l:=hO.ch g iZ;have m:=(App.refl w o).step g iZ;refine yo (yC (qcB 1 [((x).size:Int)] l (Rd.all a) (bC bN) a.lt c) ?_);rintro _ G ⟨r,d,s,rfl,t,H,f⟩;refine⟨_,rfl,?_⟩;have u:=f.apart a.lt c;have v:=m.trans f;have y:=a.ch f.ch (fun h=>c _ h rfl);refine yq 7 ?_;refine yo (e_appS 5 r d s (u8s (xs++qad [((x).size:Int)])) x (some 12) (d+(x).size) rfl (by kernel_rfl) t (by constructor<;>first|omega|(simp only[maxLen];omega)) ?_);intro I A B i j;rw[app_bytV]at i;have J:=j.apart y.lt u;have C:=v.trans j;refine yz 9<|q9 (yR1 (.slice (A.map at0) (d+(x).size) B) ?_);exact⟨_,_,_,rfl,by have h:=i;rw[qgJ,Int.toNat_natCast,List.append_assoc]at h;exact h,by omega,C⟩
def qgK (s:Sty):Int:=
  let n0:=qe .or .u64 s.fore (IntKind.wrap .u64 (s.back*2^min (4:Int).toNat (IntKind.bits .u64)))
  let n1:=if s.bold=true then qe .or .u64 n0 256 else n0
  let n2:=if s.under=true then qe .or .u64 n1 512 else n1
  if s.turned=true then qe .or .u64 n2 1024 else n2
theorem qpj:∀f,f<9-> ∀k,k<9-> ∀a b c:Bool,qgK ⟨a,b,c,((f:Nat):Int),((k:Nat):Int)⟩=((qbA ⟨a,b,c,((f:Nat):Int),((k:Nat):Int)⟩:Nat):Int):=by decide+kernel
theorem bitsG_eq {s:Sty}(h:qB s=true):qgK s=((qbA s:Nat):Int):=by
 obtain⟨a,b,c,f,k⟩:=s;simp only[qB,Bool.and_eq_true,decide_eq_true_eq]at h;obtain⟨f,rfl⟩:∃n:Nat,f=(n:Int):=⟨f.toNat,by omega⟩
 obtain⟨k,rfl⟩:∃n:Nat,k=(n:Int):=⟨k.toNat,by omega⟩
 exact qpj f (by omega) k (by omega) a b c
theorem qdw {s:Sty}{v:Int}(h:qB s=true)(e:qgK s=v):v=((qbA s:Nat):Int):=e.symm.trans (bitsG_eq h)
theorem style_bd {s:Sty}(h:qB s=true):(0<=s.fore/\s.fore<=8)/\0<=s.back/\s.back<=8:=by
 simp only[qB,Bool.and_eq_true,decide_eq_true_eq]at h;omega
theorem bits_any (sx:Sty)(hs:qB sx=true)(w:World):Calls Tryz.prog 113 [.agg #[.bool sx.bold,.bool sx.under,.bool sx.turned,iX sx.fore,iX sx.back]].toArray w fun e w'=>e= .returned (.int .u64 ((qbA sx:Nat):Int))/\Ch (fun _=>False) w w':=by
 have G:=style_bd hs;refine yA Tryz.func113 rfl<|ysr<|yo (yN [.bool sx.bold,.bool sx.under,.bool sx.turned,iX sx.fore,iX sx.back] 84 fun H I u J b v=>?_);have K:=zn u (zm w);have a:=zu (zm w) v iZ;refine yz 2<|ysr<|yp 9 [2,5] (.l (b.c 3) (.p (q:=InR .u64 sx.fore) (qam (by omega) (by omega)) (.l (b.c 4) (.p (q:=InR .u64 sx.back) (qam (by omega) (by omega)) (.p (q:=0<=(4:Int)) (by omega) .z)))))<|ye<|ys<|ysr<|yp 8 [] (.l (b.c 0) (.l (b.c 1) (.l (b.c 2) .z)))<|ye<|qa<|yU 4 (yU1 ?_);refine yx 1<|ys<|yct<|yk<|ys<|qa<|yx 4<|yx 1<|yc (rY sx.bold) (fun g=>?_) fun g=>?_
 ·have d:=g;refine q7<|yp 5 [] (.p (q:=0<=(0:Int)) (by omega) .z)<|yE (nB (nS ?_));refine q7<|yp 2 [] (.q6 1 .z)<|yE (nU (yU1 ?_));refine yx 1<|ys<|yct<|yk<|ys<|qa<|yx 4<|yx 1<|yc (rY sx.under) (fun h=>?_) fun h=>?_
  ·have o:=h;refine q7<|yp 5 [] (.p (q:=0<=(1:Int)) (by omega) .z)<|yE (nB (nS ?_));refine q7<|yp 2 [] (.q6 2 .z)<|yE (nU (yU1 ?_));refine yx 1<|ys<|yct<|yk<|ys<|qa<|yx 4<|yx 1<|yc (rY sx.turned) (fun i=>?_) fun i=>?_
   ·have x:=i;refine q7<|yp 5 [] (.p (q:=0<=(2:Int)) (by omega) .z)<|yE (nB (nS ?_));refine q7<|yp 2 [] (.q6 3 .z)<|yE (nU (yU1 ?_));refine yx 1<|ys<|ycf<|ql (eS (qd (qb (nS ?_))));refine yx 2<|q9 (yR1 (.int .u64 (qe .or .u64 (qe .or .u64 (qe .or .u64 (qe .or .u64 sx.fore (IntKind.wrap .u64 (sx.back*2^min (4:Int).toNat (IntKind.bits .u64)))) 256) 512) 1024)) ?_);refine⟨congrArg Ending.returned (congrArg (Value.int .u64) ?_),Up.ch a⟩;refine qdw hs ?_;unfold qgK;simp only[d,o,x,Bool.false_eq_true,↓reduceIte]
   have y:=i;refine qk (nB (nS ?_));refine q7<|yp 2 [] (.q6 3 .z)<|yE (nU (yU1 ?_));refine yx 1<|ys<|ycf<|ql (eS (qd (qb (nS ?_))));refine yx 2<|q9 (yR1 (.int .u64 (qe .or .u64 (qe .or .u64 (qe .or .u64 sx.fore (IntKind.wrap .u64 (sx.back*2^min (4:Int).toNat (IntKind.bits .u64)))) 256) 512)) ?_);refine⟨congrArg Ending.returned (congrArg (Value.int .u64) ?_),Up.ch a⟩;refine qdw hs ?_;unfold qgK;simp only[d,o,y,Bool.false_eq_true,↓reduceIte]
  have r:=h;refine qk (nB (nS ?_));refine q7<|yp 2 [] (.q6 2 .z)<|yE (nU (yU1 ?_));refine yx 1<|ys<|yct<|yk<|ys<|qa<|yx 4<|yx 1<|yc (rY sx.turned) (fun j=>?_) fun j=>?_
  ·have A:=j;refine q7<|yp 5 [] (.p (q:=0<=(2:Int)) (by omega) .z)<|yE (nB (nS ?_));refine q7<|yp 2 [] (.q6 3 .z)<|yE (nU (yU1 ?_));refine yx 1<|ys<|ycf<|ql (eS (qd (qb (nS ?_))));refine yx 2<|q9 (yR1 (.int .u64 (qe .or .u64 (qe .or .u64 (qe .or .u64 sx.fore (IntKind.wrap .u64 (sx.back*2^min (4:Int).toNat (IntKind.bits .u64)))) 256) 1024)) ?_);refine⟨congrArg Ending.returned (congrArg (Value.int .u64) ?_),Up.ch a⟩;refine qdw hs ?_;unfold qgK;simp only[d,r,A,Bool.false_eq_true,↓reduceIte]
  have B:=j;refine qk (nB (nS ?_));refine q7<|yp 2 [] (.q6 3 .z)<|yE (nU (yU1 ?_));refine yx 1<|ys<|ycf<|ql (eS (qd (qb (nS ?_))));refine yx 2<|q9 (yR1 (.int .u64 (qe .or .u64 (qe .or .u64 sx.fore (IntKind.wrap .u64 (sx.back*2^min (4:Int).toNat (IntKind.bits .u64)))) 256)) ?_);refine⟨congrArg Ending.returned (congrArg (Value.int .u64) ?_),Up.ch a⟩;refine qdw hs ?_;unfold qgK;simp only[d,r,B,Bool.false_eq_true,↓reduceIte]
 have f:=g;refine qk (nB (nS ?_));refine q7<|yp 2 [] (.q6 1 .z)<|yE (nU (yU1 ?_));refine yx 1<|ys<|yct<|yk<|ys<|qa<|yx 4<|yx 1<|yc (rY sx.under) (fun k=>?_) fun k=>?_
 ·have s:=k;refine q7<|yp 5 [] (.p (q:=0<=(1:Int)) (by omega) .z)<|yE (nB (nS ?_));refine q7<|yp 2 [] (.q6 2 .z)<|yE (nU (yU1 ?_));refine yx 1<|ys<|yct<|yk<|ys<|qa<|yx 4<|yx 1<|yc (rY sx.turned) (fun m=>?_) fun m=>?_
  ·have C:=m;refine q7<|yp 5 [] (.p (q:=0<=(2:Int)) (by omega) .z)<|yE (nB (nS ?_));refine q7<|yp 2 [] (.q6 3 .z)<|yE (nU (yU1 ?_));refine yx 1<|ys<|ycf<|ql (eS (qd (qb (nS ?_))));refine yx 2<|q9 (yR1 (.int .u64 (qe .or .u64 (qe .or .u64 (qe .or .u64 sx.fore (IntKind.wrap .u64 (sx.back*2^min (4:Int).toNat (IntKind.bits .u64)))) 512) 1024)) ?_);refine⟨congrArg Ending.returned (congrArg (Value.int .u64) ?_),Up.ch a⟩;refine qdw hs ?_;unfold qgK;simp only[f,s,C,Bool.false_eq_true,↓reduceIte]
  have D:=m;refine qk (nB (nS ?_));refine q7<|yp 2 [] (.q6 3 .z)<|yE (nU (yU1 ?_));refine yx 1<|ys<|ycf<|ql (eS (qd (qb (nS ?_))));refine yx 2<|q9 (yR1 (.int .u64 (qe .or .u64 (qe .or .u64 sx.fore (IntKind.wrap .u64 (sx.back*2^min (4:Int).toNat (IntKind.bits .u64)))) 512)) ?_);refine⟨congrArg Ending.returned (congrArg (Value.int .u64) ?_),Up.ch a⟩;refine qdw hs ?_;unfold qgK;simp only[f,s,D,Bool.false_eq_true,↓reduceIte]
 have t:=k;refine qk (nB (nS ?_));refine q7<|yp 2 [] (.q6 2 .z)<|yE (nU (yU1 ?_));refine yx 1<|ys<|yct<|yk<|ys<|qa<|yx 4<|yx 1<|yc (rY sx.turned) (fun n=>?_) fun n=>?_
 ·have E:=n;refine q7<|yp 5 [] (.p (q:=0<=(2:Int)) (by omega) .z)<|yE (nB (nS ?_));refine q7<|yp 2 [] (.q6 3 .z)<|yE (nU (yU1 ?_));refine yx 1<|ys<|ycf<|ql (eS (qd (qb (nS ?_))));refine yx 2<|q9 (yR1 (.int .u64 (qe .or .u64 (qe .or .u64 sx.fore (IntKind.wrap .u64 (sx.back*2^min (4:Int).toNat (IntKind.bits .u64)))) 1024)) ?_);refine⟨congrArg Ending.returned (congrArg (Value.int .u64) ?_),Up.ch a⟩;refine qdw hs ?_;unfold qgK;simp only[f,t,E,Bool.false_eq_true,↓reduceIte]
 have F:=n;refine qk (nB (nS ?_));refine q7<|yp 2 [] (.q6 3 .z)<|yE (nU (yU1 ?_));refine yx 1<|ys<|ycf<|ql (eS (qd (qb (nS ?_))));refine yx 2<|q9 (yR1 (.int .u64 (qe .or .u64 sx.fore (IntKind.wrap .u64 (sx.back*2^min (4:Int).toNat (IntKind.bits .u64))))) ?_);refine⟨congrArg Ending.returned (congrArg (Value.int .u64) ?_),Up.ch a⟩;refine qdw hs ?_;unfold qgK;simp only[f,t,F,Bool.false_eq_true,↓reduceIte]
theorem qdx {o:Option Nat}{n cap:Nat}{xs:List Int}{w:World}(hO:Own w tU8 1 o n cap (u8s xs))(sx:Sty)(hs:qB sx=true)(hz:n+10<=1000000000):Calls Tryz.prog 85 [.slice (o.map at0) n cap,.agg #[.bool sx.bold,.bool sx.under,.bool sx.turned,iX sx.fore,iX sx.back]].toArray w fun e w'=> ∃o' n' cap',e= .returned (.slice (o'.map at0) n' cap')/\Own w' tU8 1 o' n' cap' (u8s (xs++qS (qbA sx)))/\n'<=n+10/\App w w' o o':=by
 have F:=qeO hs;refine yA Tryz.func85 rfl<|ysr<|yo (yN [.bool sx.bold,.bool sx.under,.bool sx.turned,iX sx.fore,iX sx.back] 84 fun G m H I i j=>?_);have p:=zv (b:=m) hO;have q:=hO.ch j iZ;have r:=(App.refl w o).step j iZ;refine yz 2<|ysr<|yp 2 [] (.a (i.cs 0 5) .z)<|yo (yQ (bits_any sx hs _) fun J c=>?_);have k:=q.ch c iZ;have s:=r.step c iZ;have t:=i.ch c id;refine yo (yB [.int .u64 ((qbA sx:Nat):Int)] 110 1 fun K u L M d f=>?_);have l:=zv (b:=u) k;have v:=k.ch f iZ;have x:=s.step f iZ;have y:=t.ch f id;refine yo (yC (qcB 1 [((qbA sx:Nat):Int)] v (Rd.all d) (bC bN) d.lt l) ?_);rintro _ N ⟨A,B,C,rfl,D,O,g⟩;refine⟨_,rfl,?_⟩;have P:=g.apart y.lt p;have Q:=g.apart d.lt l;have E:=x.trans g;refine yz 6<|q9 (yR1 (.slice (A.map at0) B C) ?_);exact⟨_,_,_,rfl,by have h:=D;rw[qgJ,Int.toNat_natCast]at h;exact h,by omega,E⟩
theorem u8_at {w:World}{b o:Nat}{l:List Int}(h:Rd w (some ⟨b,o,none⟩) (u8s l))(k:Nat)(hk:k<l.length):w.cell? ⟨b,o+k,none⟩=some (uX (l.getD k 0)):=by
 refine qci h k _ ?_;rw[List.getElem?_map,List.getElem?_eq_getElem hk];simp[List.getD,List.getElem?_eq_getElem hk]
theorem byts_at {l:List Int}(h:qaA l){k:Nat}(hk:k<l.length):0<=l.getD k 0/\l.getD k 0<=255:=h _ (qd2 hk)
theorem qdy (a b:List Int):u8s (a++b)=u8s a++u8s b:=List.map_append
theorem qaB (a:List Int):(u8s a).length=a.length:=List.length_map _
theorem sum_any (b cap:Nat)(l:List Int)(w:World)(hr:Rd w (some ⟨b,0,none⟩) (u8s l))(hby:qaA l)(hn:l.length<=1000000000):Calls Tryz.prog 114 [.slice (some ⟨b,0,none⟩) l.length cap].toArray w fun e w'=>e= .returned (.int .u32 (qfH l))/\Ch (fun _=>False) w w':=by
 have h:=Sep.nil w;refine yA Tryz.func114 rfl<|yx 1<|yx 1<|ys<|yx 3<|qa<|qT [3,6,7,8] (f':=[(3,.int .u32 4294967295),(6,.slice (some ⟨b,0,none⟩) l.length cap),(7,iX ((l.length:Nat):Int)),(8,iX 0)])<|qx (σ:=Nat) (fun k=>[(3,.int .u32 (sumK l k)),(6,.slice (some ⟨b,0,none⟩) l.length cap),(7,iX ((l.length:Nat):Int)),(8,iX ((k:Nat):Int))]) (fun k u=>k<=l.length/\Sep w (fun _=>False) u []) (fun k=>l.length-k) 0 rfl ?_ ?_
 ·exact⟨Nat.zero_le _,h.take 0⟩
 intro k u f t g;obtain⟨hk,h⟩:=f;refine yx 1<|ys<|yc (rL ((k:Nat):Int) ((l.length:Nat):Int)) (fun c=>?_) fun c=>?_
 ·have v:=c;have x:=byts_at hby (k:=k) (by omega);refine yk<|ys<|qa<|ysr<|yp 3 [] (.i ((k:Nat):Int) (l.length) (.l (o:=(0+(((k:Nat):Int)).toNat*1)) (qph (h.rd hr) (by omega)) .z))<|ye<|ysr<|yp 5 [2] (.p (q:=InR .u32 (l.getD k 0)) (qgd (by omega) (by omega)) .z)<|ye<|yx 1<|qa<|qT [3,6,7,8,16] (f':=[(3,.int .u32 (qe .xor .u32 (sumK l k) (l.getD k 0))),(6,.slice (some ⟨b,0,none⟩) l.length cap),(7,iX ((l.length:Nat):Int)),(8,iX ((k:Nat):Int)),(16,iX 0)])<|qx (σ:=Nat) (fun j=>[(3,.int .u32 (crcK (qe .xor .u32 (sumK l k) (l.getD k 0)) j)),(6,.slice (some ⟨b,0,none⟩) l.length cap),(7,iX ((l.length:Nat):Int)),(8,iX ((k:Nat):Int)),(16,iX ((j:Nat):Int))]) (fun j u=>j<=8/\Sep w (fun _=>False) u []) (fun j=>8-j) 0 rfl ?_ ?_
  ·exact⟨Nat.zero_le _,h.take 0⟩
  intro j u m y n;obtain⟨hj,h⟩:=m;refine yx 1<|ys<|yc (rL ((j:Nat):Int) 8) (fun d=>?_) fun d=>?_
  ·have A:=d;refine yk<|ys<|qa<|q7<|yp 7 [] (.p (q:=0<=(1:Int)) (by omega) .z)<|yE (nB (nS ?_));refine q7<|yp 2 [] (.q6 (((j:Nat):Int)+1) .z)<|yE (fun a ha=>n (j+1) _ ⟨by omega,h.take 0⟩ (by show 8-(j+1)<8-j;omega) a (ha.kp [3,6,7,8,16]))
  have B:=d;have r:j=8:=by omega
  subst r;refine ql (eS (qd (qb (nB (nS ?_)))));refine q7<|yp 2 [] (.q6 (((k:Nat):Int)+1) .z)<|yE (fun a ha=>g (k+1) _ ⟨by omega,h.take 0⟩ (by show l.length-(k+1)<l.length-k;omega) a (ha.kp [3,6,7,8]))
 have C:=c;have s:k=l.length:=by omega
 refine ql (eS (qd (qb (nS ?_))));refine yx 3<|q9 (yR1 (.int .u32 (qe .xor .u32 4294967295 (sumK l k))) ?_);exact⟨by rw[s];rfl,h.ch⟩
theorem sum_any' (b n cap:Nat)(l:List Int)(w:World)(hr:Rd w (some ⟨b,0,none⟩) (u8s l))(hby:qaA l)(hn:l.length<=1000000000)(e:l.length=n):Calls Tryz.prog 114 [.slice (some ⟨b,0,none⟩) n cap].toArray w fun e w'=>e= .returned (.int .u32 (qfH l))/\Ch (fun _=>False) w w':=by
 subst e;exact sum_any b cap l w hr hby hn
theorem qgL (o:Option Nat)(n cap:Nat)(xs:List Int)(a:Option Addr)(m c:Nat)(l:List Int)(w:World)(hO:Own w tU8 1 o n cap (u8s xs))(hr:Rd w a (u8s l))(hl:l.length=m)(hz0:a=none->c=0)(hne:∀ad,a=some ad-> ¬o=some ad.block)(hby:qaA l)(hz:n+m+100<=1000000000):Calls Tryz.prog 87 [.slice (o.map at0) n cap,.slice a m c].toArray w fun e w'=> ∃o' n' c',e= .returned (.slice (o'.map at0) n' c')/\Own w' tU8 1 o' n' c' (u8s (xs++qaa l))/\(xs++qaa l).length=n'/\App w w' o o':=by
 have j:qaA (qaU l):=qj (qo (by omega)) hby;have y:=qeU l.length;have A:=qX l.length;have B:(qaU l).length=(qS l.length).length+l.length:=by unfold qaU;rw[List.length_append]
 have C:xs.length=n:=by have:=hO.len1;rwa[qaB]at this
 have D:=sumI_bd (qaU l);have h:=Sep.startO hO;refine yA Tryz.func87 rfl<|yx 1<|ysr<|yp 3 [2] (.p (q:=InR .u64 ((m:Nat):Int)) (qam (by omega) (by omega)) .z)<|yo (zB [.int .u64 ((m:Nat):Int)] 110 1 h fun u E h=>?_);refine yo (yC (qcB (xs:=[]) 1 [((m:Nat):Int)] (Own.nil _ _ _) (Rd.all (h.b 1)) (bC bN) (h.b 1).lt (fun b e=>by cases e)) ?_);rintro _ u ⟨F,d,G,rfl,k,H,r⟩;refine⟨_,rfl,?_⟩;have h:=h.app0 k r;have I:([]++qad [((m:Nat):Int)]).length=d:=by have:=h.len1 2;rwa[List.length_map]at this
 refine yq 6<|yo (zA (a2:=a) (ys:=u8s (l)) 2 1 m c (d+m) (u8s (qS l.length++l)) h (hr.ch h.ch (fun ad e=>hne ad e)) (qab _) (hz:=by rw[qgJ,Int.toNat_natCast,hl,List.nil_append];exact(qdy _ _).symm) (hy:=(by rw[qaB];omega)) (hn2:=hz0) fun u J f h K=>?_);have g:(qS l.length++l).length=(d+m):=by have:=h.len1 2;rwa[List.length_map]at this
 have L:(qaU l).length=(d+m):=g;refine yz 8<|ysr<|yq 1 ?_;obtain⟨i,rfl⟩:=h.isO 2;refine yo (yQ (h.look (sum_any' i (d+m) f (qaU l) _ (h.brd 2) j (by omega) g)) fun u h=>?_);refine yz 3<|ysr<|yq 2<|yo (zA (a2:=(some ⟨i,0,none⟩)) (ys:=u8s (qaU l)) 0 1 (d+m) f (n+(d+m)) (u8s (xs++qaU l)) h (h.brd 2) (qab _) (hz:=(qdy _ _).symm) (hy:=(by rw[qaB];omega)) (hn2:=(fun e=>by cases e)) fun u M N h O=>?_);have P:(xs++qaU l).length=(n+(d+m)):=by have:=h.len1 0;rwa[List.length_map]at this
 refine yp 14 [] (.p (q:=0<=(8:Int)) (by omega) (.p (q:=0<=(16:Int)) (by omega) (.p (q:=0<=(24:Int)) (by omega) .z)))<|yo (zB [uX (IntKind.wrap .u8 (qfH (qaU l))),uX (IntKind.wrap .u8 (Int.fdiv (qfH (qaU l)) (2^min (8:Int).toNat (IntKind.bits .u32)))),uX (IntKind.wrap .u8 (Int.fdiv (qfH (qaU l)) (2^min (16:Int).toNat (IntKind.bits .u32)))),uX (IntKind.wrap .u8 (Int.fdiv (qfH (qaU l)) (2^min (24:Int).toNat (IntKind.bits .u32))))] 5 4 h fun u s h=>?_);refine yo (zA (a2:=(some ⟨s,0,none⟩)) (ys:=u8s ([(IntKind.wrap .u8 (qfH (qaU l))),(IntKind.wrap .u8 (Int.fdiv (qfH (qaU l)) (2^min (8:Int).toNat (IntKind.bits .u32)))),(IntKind.wrap .u8 (Int.fdiv (qfH (qaU l)) (2^min (16:Int).toNat (IntKind.bits .u32)))),(IntKind.wrap .u8 (Int.fdiv (qfH (qaU l)) (2^min (24:Int).toNat (IntKind.bits .u32))))])) 0 1 4 4 ((n+(d+m))+4) (u8s (xs++qaU l++[(IntKind.wrap .u8 (qfH (qaU l))),(IntKind.wrap .u8 (Int.fdiv (qfH (qaU l)) (2^min (8:Int).toNat (IntKind.bits .u32)))),(IntKind.wrap .u8 (Int.fdiv (qfH (qaU l)) (2^min (16:Int).toNat (IntKind.bits .u32)))),(IntKind.wrap .u8 (Int.fdiv (qfH (qaU l)) (2^min (24:Int).toNat (IntKind.bits .u32))))])) h (Rd.all (h.b 3)) (qab _) (hz:=(qdy _ _).symm) (hy:=rfl) (hn2:=(fun e=>by cases e)) fun u t v h Q=>?_);have R:(xs++qaU l++[(IntKind.wrap .u8 (qfH (qaU l))),(IntKind.wrap .u8 (Int.fdiv (qfH (qaU l)) (2^min (8:Int).toNat (IntKind.bits .u32)))),(IntKind.wrap .u8 (Int.fdiv (qfH (qaU l)) (2^min (16:Int).toNat (IntKind.bits .u32)))),(IntKind.wrap .u8 (Int.fdiv (qfH (qaU l)) (2^min (24:Int).toNat (IntKind.bits .u32))))]).length=((n+(d+m))+4):=by have:=h.len1 0;rwa[List.length_map]at this
 refine yz 17<|q9 (yR1 (.slice (t.map at0) ((n+(d+m))+4) v) ?_);obtain⟨hO,hA⟩:=h.finA 0;have x:(xs++qaU l++[(IntKind.wrap .u8 (qfH (qaU l))),(IntKind.wrap .u8 (Int.fdiv (qfH (qaU l)) (2^min (8:Int).toNat (IntKind.bits .u32)))),(IntKind.wrap .u8 (Int.fdiv (qfH (qaU l)) (2^min (16:Int).toNat (IntKind.bits .u32)))),(IntKind.wrap .u8 (Int.fdiv (qfH (qaU l)) (2^min (24:Int).toNat (IntKind.bits .u32))))]:List Int)=xs++qaa l:=by unfold qaa;rw[List.append_assoc];rfl
 rw[x]at hO;exact⟨_,_,_,rfl,hO,by have:=hO.len1;rw[qaB]at this;exact this,hA⟩
theorem qs {l m:List Int}(hl:qaA l)(hm:qaA m):((qf l).toList==(qf m).toList)=decide (l=m):=by
 rw[Bool.eq_iff_iff];constructor
 ·intro h;have h:=congrArg qaW (qhI h);rw[qiI hl,qiI hm]at h;exact decide_eq_true h
 intro h;rw[of_decide_eq_true h];simp
theorem qkg {w:World}{a:Option Addr}{l:List Int}(h:Rd w a (u8s l))(m:Nat):Rd w a (u8s (l.take m)):=by
 refine⟨fun e=>?_,fun ad e j u hj=>?_⟩
 ·have:=h.1 e;rw[u8s,List.map_eq_nil_iff]at this;subst this;simp[u8s]
 refine h.2 ad e j u ?_;rw[u8s,List.map_take,List.getElem?_take]at hj;split at hj
 ·exact hj
 cases hj
theorem ql7 {w:World}{b o:Nat}{l:List Int}(h:Rd w (some ⟨b,o,none⟩) (u8s l))(k:Nat):Rd w (some ⟨b,o+k*1,none⟩) (u8s (l.drop k)):=by
 refine⟨fun e=>by(cases e),fun ad e j u hj=>?_⟩;cases e;have:=h.2 ⟨b,o,none⟩ rfl (k+j) u (by
  rw[u8s,List.getElem?_map,List.getElem?_drop,<-List.getElem?_map]at hj;exact hj)
 rw[qb7]at this⊢;rw[show o+k*1+j=o+(k+j) by omega];exact this
theorem take_eq {a:Option Addr}{n cap K c:Nat}{us:List Int}{w:World}(hT:qa1 us=(K,c))(hr:Rd w a (u8s us))(hl:us.length=n)(hz:n=0\/ ∃b o,a=some ⟨b,o,none⟩)(hb:qaA us)(hn:n<=1000000000):Calls Tryz.prog 86 [.slice a n cap].toArray w fun e w'=>e= .returned (.tuple #[.int .u64 (K:Int),iX (c:Int)])/\Ch (fun _=>False) w w':=by
 have:=qm5 a n cap us w hr hl hz hb hn;rw[hT]at this;exact this
theorem ql8 {l:List Int}{K c:Nat}(hT:qa1 l=(K,c))(h:c=0\/l.length<K+c+4):qaV l=([],0):=by
 unfold qaV;rw[hT];exact if_pos h
theorem qdM {l:List Int}{K c:Nat}{b:Bool}(hT:qa1 l=(K,c))(h:¬(c=0\/l.length<K+c+4))(hy:qaA l)(hf:qaA (qaa ((l.drop c).take K)))(hc:((qf (qaa ((l.drop c).take K))).toList==(qf (l.take (c+K+4))).toList)=b):qaV l=if b=true then((l.drop c).take K,c+K+4)else([],0):=by
 rw[qs hf fun x hx=>hy x (List.mem_of_mem_take hx)]at hc;subst hc;unfold qaV;rw[hT];dsimp only;rw[if_neg h];simp only[decide_eq_true_eq]
theorem qnj {l:List Int}(h:qaA l)(k m:Nat):qaA ((l.drop k).take m):=fun x hx=>h x (List.mem_of_mem_drop (List.mem_of_mem_take hx))
theorem qm8 (a:Option Addr)(n cap:Nat)(l:List Int)(w:World)(hr:Rd w a (u8s l))(hl:l.length=n)(hcap:n<=cap)(hz:(n=0/\cap=0)\/ ∃b o,a=some ⟨b,o,none⟩)(hby:qaA l)(hn:n<=100000000):Calls Tryz.prog 61 [.slice a n cap].toArray w fun e w'=> ∃o c xs k,e= .returned (.tuple #[.slice (o.map at0) xs.length c,iX ((k:Nat):Int)])/\qaV l=(xs,k)/\Own w' tU8 1 o xs.length c (u8s xs)/\App w w' none o:=by
 obtain⟨K,c,hT⟩:∃K c,qa1 l=(K,c):=⟨_,_,rfl⟩
 have a3:c<=n:=by have:=(qlV hby).1;rw[hT]at this;omega
 have G:n=0\/ ∃b o,a=some ⟨b,o,none⟩:=hz.imp (fun h=>h.1) id;have H:n<=1000000000:=by omega
 have h:=Sep.nil w;refine yA Tryz.func61 rfl<|yx 2<|ysr<|yq 1<|yo (yQ (h.look (take_eq (cap:=cap) hT (hr.ch h.ch fun _ _ h=>h) hl G hby H)) fun u h=>?_);refine yz 7<|ys<|ysr<|yq 3<|yw [14] (rE ((c:Nat):Int) 0) (fun r=>?_) fun r=>?_
 ·have a4:=r;refine yz 19<|yct<|yx 2<|q9 (rS (yR2 [nX,iX 0] .z ?_));exact⟨none,0,[],0,rfl,ql8 hT (by omega),Own.nil _ _ _,h.no⟩
 have a5:=r;refine yp 10 [6] (.p (q:=InR .u64 ((n:Nat):Int)) (qam (by omega) (by omega)) .z)<|yw [21] (rL ((n:Nat):Int) ((K:Nat):Int)) (fun s=>?_) fun s=>?_
 ·have a6:=s;refine yz 19<|yct<|yx 2<|q9 (rS (yR2 [nX,iX 0] .z ?_));exact⟨none,0,[],0,rfl,ql8 hT (by omega),Own.nil _ _ _,h.no⟩
 have a7:=s;refine yp 19 [] (.q6 ((K:Nat):Int) (.q6 (((K:Nat):Int)+((c:Nat):Int)) (.q6 ((((K:Nat):Int)+((c:Nat):Int))+4) .z)))<|ye<|yc (rL ((n:Nat):Int) ((((K:Nat):Int)+((c:Nat):Int))+4)) (fun t=>?_) fun t=>?_
 ·have a8:=t;refine yx 2<|q9 (rS (yR2 [nX,iX 0] .z ?_));exact⟨none,0,[],0,rfl,ql8 hT (by omega),Own.nil _ _ _,h.no⟩
 have a9:=t;obtain⟨_,_⟩|⟨D,f,rfl⟩:=hz
 ·exfalso;omega
 have d:((l.drop c).take K).length=K:=by rw[List.length_take,List.length_drop];omega
 have g:qaA ((l.drop c).take K):=qnj hby c K;have aa:(qaa ((l.drop c).take K)).length=(qS K).length+K+4:=by rw[qbR,d]
 refine yk<|ysr<|yp 5 [] (.q6 ((K:Nat):Int) (.q6 (((c:Nat):Int)+((K:Nat):Int)) .z))<|ye<|ys<|ys<|zD [4,5,10] h fun u h=>ydT [0,1,2,3,6,7,8,9] [3] rfl (fun _=>(.j (((c:Nat):Int)+((K:Nat):Int)) (cap) (.j ((c:Nat):Int) (((((c:Nat):Int)+((K:Nat):Int)):Int).toNat) (.p (q:=(((c:Nat):Int):Int).toNat<cap) (by omega) (.q6 ((((c:Nat):Int)+((K:Nat):Int))+4) (.j ((((c:Nat):Int)+((K:Nat):Int))+4) (cap) .z))))))<|qa4 4 10 (by kernel_rfl) (by decide) ?_ ?_
 ·refine qar 4 _ (by kernel_rfl) rfl (yC (qgL none 0 0 [] (some ⟨D,(f+(((c:Nat):Int):Int).toNat*1),none⟩) (((((c:Nat):Int)+((K:Nat):Int)):Int).toNat-(((c:Nat):Int):Int).toNat) (cap-(((c:Nat):Int):Int).toNat) ((l.drop c).take K) _ (Own.nil _ _ _) ((qkg (ql7 (h.rd hr) c) K)) (by rw[d];omega) (fun e=>by cases e) (fun _ _ e=>by cases e) g (by omega)) ?_);rintro _ u ⟨B,v,C,rfl,I,ab,J⟩;refine⟨_,rfl,?_⟩;have h:=h.app0 I J;have E:([]++qaa ((l.drop c).take K)).length=v:=by have:=h.len1 0;rwa[List.length_map]at this
  refine q8<|qa4 5 10 (by kernel_rfl) (by decide) ?_ ?_
  ·refine qar 5 _ (by kernel_rfl) rfl (qp (B.map at0) v C ([]++qaa ((l.drop c).take K)) (some 40) (by kernel_rfl) (h.ownRd' 0) E ?_);refine q8<|yK 10 (qp (some ⟨D,f,none⟩) (((((c:Nat):Int)+((K:Nat):Int))+4):Int).toNat cap (l.take (c+K+4)) (some 45) (by kernel_rfl) (qkg (h.rd hr) _) (by rw[List.length_take];omega) ?_);refine q8<|yd [11] [] .z<|yDe (nS ?_);refine yc (rN (rY (((qf ([]++qaa ((l.drop c).take K)))).toList==((qf (l.take (c+K+4)))).toList))) (fun x=>?_) fun x=>?_
   ·have L:=x;refine yx 2<|q9 (rS (yR2 [nX,iX 0] .z ?_));exact⟨none,0,[],0,rfl,qdM hT (by omega) hby (qbC g (by rw[d];omega)) (Bool.eq_false_iff.2 (by simpa using L)),Own.nil _ _ _,h.no⟩
   have M:=x;refine yk<|ysr<|yp 4 [3] (.j (((c:Nat):Int)+((K:Nat):Int)) (cap) (.j ((c:Nat):Int) (((((c:Nat):Int)+((K:Nat):Int)):Int).toNat) (.p (q:=(((c:Nat):Int):Int).toNat<cap) (by omega) .z)))<|yo (zA0 (a2:=(some ⟨D,(f+(((c:Nat):Int):Int).toNat*1),none⟩)) (m:=(((((c:Nat):Int)+((K:Nat):Int)):Int).toNat-(((c:Nat):Int):Int).toNat)) (c2:=(cap-(((c:Nat):Int):Int).toNat)) (ys:=u8s ((l.drop c).take K)) 5 1 1 h ((qkg (ql7 (h.rd hr) c) K)) (qab _) (by rw[qaB,d];omega) (fun e=>by cases e) fun u N O h ac=>?_);refine yp 9 [] (.q6 ((((c:Nat):Int)+((K:Nat):Int))+4) .z)<|ye<|q9 (yR2 [.slice (N.map at0) (((((c:Nat):Int)+((K:Nat):Int)):Int).toNat-(((c:Nat):Int):Int).toNat) O,iX ((((c:Nat):Int)+((K:Nat):Int))+4)] .z ?_);obtain⟨hO,hA⟩:=h.newO 1;have i:(((((c:Nat):Int)+((K:Nat):Int)):Int).toNat-(((c:Nat):Int):Int).toNat)=((l.drop c).take K).length:=by rw[d];omega
   rw[i]at hO;exact⟨_,_,_,c+K+4,by rw[i,show(((c+K+4:Nat)):Int)=(c:Int)+K+4 by omega],qdM hT (by omega) hby (qbC g (by rw[d];omega)) M,hO,hA⟩
  refine qar 10 _ (by kernel_rfl) rfl (qp (some ⟨D,f,none⟩) (((((c:Nat):Int)+((K:Nat):Int))+4):Int).toNat cap (l.take (c+K+4)) (some 45) (by kernel_rfl) (qkg (h.rd hr) _) (by rw[List.length_take];omega) ?_);refine q8<|yK 5 (qp (B.map at0) v C ([]++qaa ((l.drop c).take K)) (some 40) (by kernel_rfl) (h.ownRd' 0) E ?_);refine q8<|yd [11] [] .z<|yDe (nS ?_);refine yc (rN (rY (((qf ([]++qaa ((l.drop c).take K)))).toList==((qf (l.take (c+K+4)))).toList))) (fun y=>?_) fun y=>?_
  ·have P:=y;refine yx 2<|q9 (rS (yR2 [nX,iX 0] .z ?_));exact⟨none,0,[],0,rfl,qdM hT (by omega) hby (qbC g (by rw[d];omega)) (Bool.eq_false_iff.2 (by simpa using P)),Own.nil _ _ _,h.no⟩
  have Q:=y;refine yk<|ysr<|yp 4 [3] (.j (((c:Nat):Int)+((K:Nat):Int)) (cap) (.j ((c:Nat):Int) (((((c:Nat):Int)+((K:Nat):Int)):Int).toNat) (.p (q:=(((c:Nat):Int):Int).toNat<cap) (by omega) .z)))<|yo (zA0 (a2:=(some ⟨D,(f+(((c:Nat):Int):Int).toNat*1),none⟩)) (m:=(((((c:Nat):Int)+((K:Nat):Int)):Int).toNat-(((c:Nat):Int):Int).toNat)) (c2:=(cap-(((c:Nat):Int):Int).toNat)) (ys:=u8s ((l.drop c).take K)) 5 1 1 h ((qkg (ql7 (h.rd hr) c) K)) (qab _) (by rw[qaB,d];omega) (fun e=>by cases e) fun u R S h ad=>?_);refine yp 9 [] (.q6 ((((c:Nat):Int)+((K:Nat):Int))+4) .z)<|ye<|q9 (yR2 [.slice (R.map at0) (((((c:Nat):Int)+((K:Nat):Int)):Int).toNat-(((c:Nat):Int):Int).toNat) S,iX ((((c:Nat):Int)+((K:Nat):Int))+4)] .z ?_);obtain⟨hO,hA⟩:=h.newO 1;have i:(((((c:Nat):Int)+((K:Nat):Int)):Int).toNat-(((c:Nat):Int):Int).toNat)=((l.drop c).take K).length:=by rw[d];omega
  rw[i]at hO;exact⟨_,_,_,c+K+4,by rw[i,show(((c+K+4:Nat)):Int)=(c:Int)+K+4 by omega],qdM hT (by omega) hby (qbC g (by rw[d];omega)) Q,hO,hA⟩
 refine qar 10 _ (by kernel_rfl) rfl (qp (some ⟨D,f,none⟩) (((((c:Nat):Int)+((K:Nat):Int))+4):Int).toNat cap (l.take (c+K+4)) (some 45) (by kernel_rfl) (qkg (h.rd hr) _) (by rw[List.length_take];omega) ?_);refine q8<|yK 4 (yC (qgL none 0 0 [] (some ⟨D,(f+(((c:Nat):Int):Int).toNat*1),none⟩) (((((c:Nat):Int)+((K:Nat):Int)):Int).toNat-(((c:Nat):Int):Int).toNat) (cap-(((c:Nat):Int):Int).toNat) ((l.drop c).take K) _ (Own.nil _ _ _) ((qkg (ql7 (h.rd hr) c) K)) (by rw[d];omega) (fun e=>by cases e) (fun _ _ e=>by cases e) g (by omega)) ?_);rintro _ u ⟨T,F,U,rfl,V,ae,W⟩;refine⟨_,rfl,?_⟩;have h:=h.app0 V W;have X:([]++qaa ((l.drop c).take K)).length=F:=by have:=h.len1 0;rwa[List.length_map]at this
 refine q8<|yK 5 (qp (T.map at0) F U ([]++qaa ((l.drop c).take K)) (some 40) (by kernel_rfl) (h.ownRd' 0) X ?_);refine q8<|yd [11] [] .z<|yDe (nS ?_);refine yc (rN (rY (((qf ([]++qaa ((l.drop c).take K)))).toList==((qf (l.take (c+K+4)))).toList))) (fun A=>?_) fun A=>?_
 ·have Y:=A;refine yx 2<|q9 (rS (yR2 [nX,iX 0] .z ?_));exact⟨none,0,[],0,rfl,qdM hT (by omega) hby (qbC g (by rw[d];omega)) (Bool.eq_false_iff.2 (by simpa using Y)),Own.nil _ _ _,h.no⟩
 have Z:=A;refine yk<|ysr<|yp 4 [3] (.j (((c:Nat):Int)+((K:Nat):Int)) (cap) (.j ((c:Nat):Int) (((((c:Nat):Int)+((K:Nat):Int)):Int).toNat) (.p (q:=(((c:Nat):Int):Int).toNat<cap) (by omega) .z)))<|yo (zA0 (a2:=(some ⟨D,(f+(((c:Nat):Int):Int).toNat*1),none⟩)) (m:=(((((c:Nat):Int)+((K:Nat):Int)):Int).toNat-(((c:Nat):Int):Int).toNat)) (c2:=(cap-(((c:Nat):Int):Int).toNat)) (ys:=u8s ((l.drop c).take K)) 5 1 1 h ((qkg (ql7 (h.rd hr) c) K)) (qab _) (by rw[qaB,d];omega) (fun e=>by cases e) fun u a0 a1 h af=>?_);refine yp 9 [] (.q6 ((((c:Nat):Int)+((K:Nat):Int))+4) .z)<|ye<|q9 (yR2 [.slice (a0.map at0) (((((c:Nat):Int)+((K:Nat):Int)):Int).toNat-(((c:Nat):Int):Int).toNat) a1,iX ((((c:Nat):Int)+((K:Nat):Int))+4)] .z ?_);obtain⟨hO,hA⟩:=h.newO 1;have i:(((((c:Nat):Int)+((K:Nat):Int)):Int).toNat-(((c:Nat):Int):Int).toNat)=((l.drop c).take K).length:=by rw[d];omega
 rw[i]at hO;exact⟨_,_,_,c+K+4,by rw[i,show(((c+K+4:Nat)):Int)=(c:Int)+K+4 by omega],qdM hT (by omega) hby (qbC g (by rw[d];omega)) Z,hO,hA⟩
theorem qm9 (p:Int)(w:World):Calls Tryz.prog 30 [iX p].toArray w fun e w'=> ∃b,e= .returned (pX b)/\NewA (qbf b ⟨none,max p 0,false,0,false⟩) w w':=by
 have h:=Sep.nil w;refine yA Tryz.func30 rfl<|yx 1<|ysr<|yo (zMk h fun u a h=>?_);refine yq 4<|yo (zN [.map (some a),iX (max (p:Int) 0),.bool false,iX 0,.bool false] 132 h fun u c h=>?_);refine yz 6<|q9 (yR1 (pX c) ?_);exact⟨_,rfl,(Sep.pack (l:=[]) (L:=qfI _ ⟨none,max p 0,false,0,false⟩) ⟨a,0,none,0,0⟩ (h.ord [1,0]).eqv).finN 0⟩
theorem qpk (w:World):Calls Tryz.prog 102 [.string nmR].toArray w fun e w'=>e= .returned (.bool true)/\Ch (fun _=>False) w w':=by
 have h:=Sep.nil w;refine yA Tryz.func102 rfl<|yx 1<|ysr<|yq 3<|yw [5] (rN (rY ((nmR).toList==(ByteArray.empty).toList))) (fun a=>?_) fun a=>?_
 ·refine yz 8<|q9 (yR1 (.bool (decide (((nmR).size:Int)<=12))) ?_);exact⟨rfl,h.ch⟩
 exact Bool.noConfusion (nmR_ne.symm.trans a)
theorem used_0 (b:Nat)(x:StX)(qu:Int)(ar:Bool)(lf:Int)(dn:Bool)(w:World)(hS:StRd w b ⟨none,qu,ar,lf,dn⟩ x):Calls Tryz.prog 103 [pX b].toArray w fun e w'=>e= .returned (iX (usedI ⟨none,qu,ar,lf,dn⟩))/\Ch (fun _=>False) w w':=by
 obtain⟨hb,hm⟩:=hS;have h:=Sep.nil w;refine yA Tryz.func103 rfl<|yx 1<|yx 1<|ys<|ysr<|yp 4 [] (.l (qg h.ch (hb.c 0) id) .z)<|yo (zRg h (hm.ch h.ch id) fun u a h=>?_);refine ye<|qa<|yU 1 (yU1 ?_);refine ysr<|yo (zNxO (seen:=[]) h 0 (hm.ch h.ch id) ?_);refine yz 2<|ys<|ycf<|ql (eS (qd (qb (nS ?_))));refine yx 2<|q9 (yR1 (iX 0) ?_);exact⟨by unfold usedI;simp,h.ch⟩
theorem find_0 (b:Nat)(x:StX)(qu:Int)(ar:Bool)(lf:Int)(dn:Bool)(w:World)(hS:StRd w b ⟨none,qu,ar,lf,dn⟩ x)(hd:dn=false):Calls Tryz.prog 97 [pX b,.string nmR].toArray w fun e w'=>e= .returned (.tuple #[.pointer none,iX 4])/\Ch (fun _=>False) w w':=by
 subst hd;obtain⟨hb,hm⟩:=hS;have h:=Sep.nil w;refine yA Tryz.func97 rfl<|yx 2<|ysr<|yp 5 [] (.l (qg h.ch (hb.c 0) id) .z)<|yo (zLk (hm.ch h.ch id) (.pointer none) ?_);refine yz 7<|ys<|qa<|ysr<|yp 5 [] (.l (qg h.ch (hb.c 4) id) .z)<|ye<|ycf<|yx 3<|yct<|yx 2<|q9 (rB (rS (yR2 [.pointer none,iX 4] .z ?_)));exact⟨rfl,h.ch⟩
theorem used_1 (b:Nat)(x:StX)(q:Fl)(qu:Int)(ar:Bool)(lf:Int)(dn:Bool)(w:World)(hS:StRd w b ⟨some q,qu,ar,lf,dn⟩ x)(hz:q.data.length<=1000000000):Calls Tryz.prog 103 [pX b].toArray w fun e w'=>e= .returned (iX (usedI ⟨some q,qu,ar,lf,dn⟩))/\Ch (fun _=>False) w w':=by
 obtain⟨hb,hm,hf,hO⟩:=hS;have a:=hO.len1;rw[qaB]at a;have h:=Sep.nil w;refine yA Tryz.func103 rfl<|yx 1<|yx 1<|ys<|ysr<|yp 4 [] (.l (qg h.ch (hb.c 0) id) .z)<|yo (zRg h (hm.ch h.ch id) fun u d h=>?_);refine ye<|qa<|yU 2 (yU1 ?_);refine ysr<|yo (zNxS (seen:=[]) {key:= .string nmR,val:= .pointer (some ⟨x.f,0,none⟩),born:=0} h 0 (hm.ch h.ch id) fun u h=>?_);refine yz 2<|ys<|yct<|yk<|qa<|ysr<|yo (zEn (seen:=[]) 0 {key:= .string nmR,val:= .pointer (some ⟨x.f,0,none⟩),born:=0} h 0 (hm.ch h.ch id) ?_);refine yz 3<|q7<|yp 8 [] (.l (qg h.ch (hf.c 0) id) (.q6 (0+((x.n:Nat):Int)) .z))<|yE (nB (nU (yU1 ?_)));refine ysr<|yo (zNxO (seen:=[0]) h 0 (hm.ch h.ch id) ?_);refine yz 2<|ys<|ycf<|ql (eS (qd (qb (nS ?_))));refine yx 2<|q9 (yR1 (iX (0+((x.n:Nat):Int))) ?_);exact⟨by unfold usedI;simp[a],h.ch⟩
theorem qma (b m:Nat)(qu lf:Int)(w:World)(hb:Blk w b [.map (some m),iX qu,.bool false,iX lf,.bool false] qkf):Calls Tryz.prog 104 [pX b].toArray w fun e w'=>e= .returned (iX 0)/\Ch (fun _=>False) w w':=by
 have h:=Sep.nil w;refine yA Tryz.func104 rfl<|yx 1<|ys<|ysr<|yp 11 [] (.l (qg h.ch (hb.c 2) id) .z)<|ye<|ycf<|yk<|ys<|ysr<|yp 4 [] (.l (qg h.ch (hb.c 2) id) .z)<|ye<|ycf<|yk<|yx 1<|q9 (yR1 (iX 0) ?_);exact⟨rfl,h.ch⟩
theorem append_0 (b:Nat)(qu lf:Int)(F:Nat->Prop)(a:Option Addr)(m c:Nat)(l:List Int)(w:World)(hA:(qbf b ⟨none,qu,false,lf,false⟩).P w F)(hg:Gz w F)(hr:Rd w a (u8s l))(hl:l.length=m)(hz0:a=none->c=0)(hne:∀ad,a=some ad-> ¬F ad.block)(hq:((m:Nat):Int)<=qu)(hm:m<=1000000000)(hqb:qu<=4611686018427387904):Calls Tryz.prog 69 [pX b,.string nmR,.slice a m c].toArray w fun e w'=>e= .returned (iX 0)/\qke (qbf b ⟨none,qu,false,lf,false⟩) (qbf b ⟨(some ⟨l,0⟩),qu,false,lf,false⟩) F w w':=by
 obtain⟨x,h⟩:=Sep.startA hA hg;refine yA Tryz.func69 rfl<|yx 1<|ys<|qa<|ysr<|yp 5 [] (.l (h.c 0 4) .z)<|ye<|ycf<|ysr<|yq 1<|yo (yQ (h.look (qpk _)) fun u h=>?_);refine yz 4<|ycf<|ys<|zDC [] [0,1] h fun u h=>ydF (uL 0 7) [] h.on (fun u h=>(.l (h.c 0 1) .z))<|yH 7 (yQ (h.look (used_0 b x qu false lf false _ ⟨h.b 0,h.ob 1⟩)) fun u h=>?_);refine zH h<|ydF (uL 8 3) [] h.on (fun u h=>(.q6 (qu-0) .z))<|yDe (nS ?_);refine yc (rL (qu-0) ((m:Nat):Int)) (fun f=>?_) fun f=>?_
 ·have p:=f;exfalso;omega
 have q:=f;refine qk (nB (nS ?_));refine ys<|ysr<|yq 1<|yo (yQ (h.look (qma b x.m qu lf _ (h.b 0))) fun u h=>?_);refine yz 3<|yx 2<|ycf<|yk<|ys<|ysr<|yp 5 [] (.l (h.c 0 0) .z)<|yo (zLk (h.ob 1) (.pointer none) ?_);refine yz 7<|yct<|q7<|yp 6 [] (.l (h.c 0 0) .z)<|yo (zN [nX,iX 0] 151 h fun u d h=>?_);refine yo (zUp (es':=(oneE d)) (c':=1) h 1 (by kernel_rfl) fun u h=>?_);refine ye<|ys<|zDC [19] [0,1,2] h fun u h=>ydF [0,1,2,3,4,6,7,8,9,10,15] [] h.on (fun u h=>(.l (h.c 0 0) (.l (h.c 0 0) .z)))<|qa4 5 11 (by kernel_rfl) (by decide) ?_ ?_
 ·refine qF 5 _ (by kernel_rfl) rfl (zLk (h.ob 1) (pX d) ?_);refine zH h<|yH 11 (zLk (h.ob 1) (pX d) ?_);refine zH h<|ydF (uL 12 3) [] h.on (fun u h=>(.l (h.c 2 0) .z))<|yH 16 (zA0 (a2:=a) (m:=m) (c2:=c) (ys:=u8s (l)) 5 1 1 h (hr.ch h.ch (fun ad e=>hne ad e)) (qab _) (by rw[qaB];omega) hz0 fun u g i h r=>?_);have s:(l).length=m:=by have:=h.len1 3;rwa[List.length_map]at this
  refine zHa h<|ydF [17,18] [] h.on (fun u h=> .z)<|yK 19 (zs h 2 fun u h=>?_);refine q8<|yDe (nS ?_);refine yx 1<|q9 (yR1 (iX 0) ?_);exact⟨rfl,(Sep.pack (l:=[]) (L:=qfI b ⟨some ⟨l,0⟩,qu,false,lf,false⟩) ⟨x.m,d,g,m,i⟩ (h.ord [0,1,2,3]).eqv).finS hg 0⟩
 refine qF 11 _ (by kernel_rfl) rfl (zLk (h.ob 1) (pX d) ?_);refine zH h<|ydF (uL 12 3) [] h.on (fun u h=>(.l (h.c 2 0) .z))<|qa4 5 16 (by kernel_rfl) (by decide) ?_ ?_
 ·refine qF 5 _ (by kernel_rfl) rfl (zLk (h.ob 1) (pX d) ?_);refine zH h<|yH 16 (zA0 (a2:=a) (m:=m) (c2:=c) (ys:=u8s (l)) 5 1 1 h (hr.ch h.ch (fun ad e=>hne ad e)) (qab _) (by rw[qaB];omega) hz0 fun u j k h t=>?_);have v:(l).length=m:=by have:=h.len1 3;rwa[List.length_map]at this
  refine zHa h<|ydF [17,18] [] h.on (fun u h=> .z)<|yK 19 (zs h 2 fun u h=>?_);refine q8<|yDe (nS ?_);refine yx 1<|q9 (yR1 (iX 0) ?_);exact⟨rfl,(Sep.pack (l:=[]) (L:=qfI b ⟨some ⟨l,0⟩,qu,false,lf,false⟩) ⟨x.m,d,j,m,k⟩ (h.ord [0,1,2,3]).eqv).finS hg 0⟩
 refine qF 16 _ (by kernel_rfl) rfl (zA0 (a2:=a) (m:=m) (c2:=c) (ys:=u8s (l)) 5 1 1 h (hr.ch h.ch (fun ad e=>hne ad e)) (qab _) (by rw[qaB];omega) hz0 fun u n o h y=>?_);have A:(l).length=m:=by have:=h.len1 3;rwa[List.length_map]at this
 refine zHa h<|yH 5 (zLk (h.ob 1) (pX d) ?_);refine zH h<|ydF [17,18] [] h.on (fun u h=> .z)<|yK 19 (zs h 2 fun u h=>?_);refine q8<|yDe (nS ?_);refine yx 1<|q9 (yR1 (iX 0) ?_);exact⟨rfl,(Sep.pack (l:=[]) (L:=qfI b ⟨some ⟨l,0⟩,qu,false,lf,false⟩) ⟨x.m,d,n,m,o⟩ (h.ord [0,1,2,3]).eqv).finS hg 0⟩
theorem append_1 (b:Nat)(q:Fl)(qu lf:Int)(F:Nat->Prop)(a:Option Addr)(m c:Nat)(l:List Int)(w:World)(hA:(qbf b ⟨(some q),qu,false,lf,false⟩).P w F)(hg:Gz w F)(hr:Rd w a (u8s l))(hl:l.length=m)(hz0:a=none->c=0)(hne:∀ad,a=some ad-> ¬F ad.block)(hq:((q.data.length:Nat):Int)+((m:Nat):Int)<=qu)(hz:q.data.length<=1000000000)(hm:m<=1000000000)(hqb:qu<=4611686018427387904):Calls Tryz.prog 69 [pX b,.string nmR,.slice a m c].toArray w fun e w'=>e= .returned (iX 0)/\qke (qbf b ⟨(some q),qu,false,lf,false⟩) (qbf b ⟨(some ⟨q.data++l,q.sure⟩),qu,false,lf,false⟩) F w w':=by
 obtain⟨x,h⟩:=Sep.startA hA hg;have g:=h.len1 3;rw[qaB]at g;refine yA Tryz.func69 rfl<|yx 1<|ys<|qa<|ysr<|yp 5 [] (.l (h.c 0 4) .z)<|ye<|ycf<|ysr<|yq 1<|yo (yQ (h.look (qpk _)) fun u h=>?_);refine yz 4<|ycf<|ys<|zDC [] [0,1,2,3] h fun u h=>ydF (uL 0 7) [] h.on (fun u h=>(.l (h.c 0 1) .z))<|yH 7 (yQ (h.look (used_1 b x q qu false lf false _ ⟨h.b 0,h.ob 1,h.b 2,h.own 3⟩ hz)) fun u h=>?_);refine zH h<|ydF (uL 8 3) [] h.on (fun u h=>(.q6 (qu-((q.data.length:Nat):Int)) .z))<|yDe (nS ?_);refine yc (rL (qu-((q.data.length:Nat):Int)) ((m:Nat):Int)) (fun d=>?_) fun d=>?_
 ·have s:=d;exfalso;omega
 have t:=d;refine qk (nB (nS ?_));refine ys<|ysr<|yq 1<|yo (yQ (h.look (qma b x.m qu lf _ (h.b 0))) fun u h=>?_);refine yz 3<|yx 2<|ycf<|yk<|ys<|ysr<|yp 5 [] (.l (h.c 0 0) .z)<|yo (zLk (h.ob 1) (.pointer (some ⟨x.f,0,none⟩)) ?_);refine yz 7<|ycf<|yk<|ys<|zDC [19] [0,1,2] h fun u h=>ydF [0,1,2,3,4,6,7,8,9,10,15] [] h.on (fun u h=>(.l (h.c 0 0) (.l (h.c 0 0) .z)))<|qa4 5 11 (by kernel_rfl) (by decide) ?_ ?_
 ·refine qF 5 _ (by kernel_rfl) rfl (zLk (h.ob 1) (.pointer (some ⟨x.f,0,none⟩)) ?_);refine zH h<|yH 11 (zLk (h.ob 1) (.pointer (some ⟨x.f,0,none⟩)) ?_);refine zH h<|ydF (uL 12 3) [] h.on (fun u h=>(.l (h.c 2 0) .z))<|yH 16 (zA (a2:=a) (ys:=u8s (l)) 3 1 m c (x.n+m) (u8s (q.data++l)) h (hr.ch h.ch (fun ad e=>hne ad e)) (qab _) (hz:=(qdy _ _).symm) (hy:=(by rw[qaB];omega)) (hn2:=hz0) fun u i j h v=>?_);have y:(q.data++l).length=(x.n+m):=by have:=h.len1 3;rwa[List.length_map]at this
  refine zHs h<|ydF [17,18] [] h.on (fun u h=> .z)<|yK 19 (zs h 2 fun u h=>?_);refine q8<|yDe (nS ?_);refine yx 1<|q9 (yR1 (iX 0) ?_);exact⟨rfl,(Sep.pack (l:=[]) (L:=qfI b ⟨some ⟨q.data++l,q.sure⟩,qu,false,lf,false⟩) ⟨x.m,x.f,i,(x.n+m),j⟩ (h.ord [0,1,2,3]).eqv).finS hg 0⟩
 refine qF 11 _ (by kernel_rfl) rfl (zLk (h.ob 1) (.pointer (some ⟨x.f,0,none⟩)) ?_);refine zH h<|ydF (uL 12 3) [] h.on (fun u h=>(.l (h.c 2 0) .z))<|qa4 5 16 (by kernel_rfl) (by decide) ?_ ?_
 ·refine qF 5 _ (by kernel_rfl) rfl (zLk (h.ob 1) (.pointer (some ⟨x.f,0,none⟩)) ?_);refine zH h<|yH 16 (zA (a2:=a) (ys:=u8s (l)) 3 1 m c (x.n+m) (u8s (q.data++l)) h (hr.ch h.ch (fun ad e=>hne ad e)) (qab _) (hz:=(qdy _ _).symm) (hy:=(by rw[qaB];omega)) (hn2:=hz0) fun u k o h A=>?_);have B:(q.data++l).length=(x.n+m):=by have:=h.len1 3;rwa[List.length_map]at this
  refine zHs h<|ydF [17,18] [] h.on (fun u h=> .z)<|yK 19 (zs h 2 fun u h=>?_);refine q8<|yDe (nS ?_);refine yx 1<|q9 (yR1 (iX 0) ?_);exact⟨rfl,(Sep.pack (l:=[]) (L:=qfI b ⟨some ⟨q.data++l,q.sure⟩,qu,false,lf,false⟩) ⟨x.m,x.f,k,(x.n+m),o⟩ (h.ord [0,1,2,3]).eqv).finS hg 0⟩
 refine qF 16 _ (by kernel_rfl) rfl (zA (a2:=a) (ys:=u8s (l)) 3 1 m c (x.n+m) (u8s (q.data++l)) h (hr.ch h.ch (fun ad e=>hne ad e)) (qab _) (hz:=(qdy _ _).symm) (hy:=(by rw[qaB];omega)) (hn2:=hz0) fun u p r h C=>?_);have D:(q.data++l).length=(x.n+m):=by have:=h.len1 3;rwa[List.length_map]at this
 refine zHs h<|yH 5 (zLk (h.ob 1) (.pointer (some ⟨x.f,0,none⟩)) ?_);refine zH h<|ydF [17,18] [] h.on (fun u h=> .z)<|yK 19 (zs h 2 fun u h=>?_);refine q8<|yDe (nS ?_);refine yx 1<|q9 (yR1 (iX 0) ?_);exact⟨rfl,(Sep.pack (l:=[]) (L:=qfI b ⟨some ⟨q.data++l,q.sure⟩,qu,false,lf,false⟩) ⟨x.m,x.f,p,(x.n+m),r⟩ (h.ord [0,1,2,3]).eqv).finS hg 0⟩
theorem sread_0 (b:Nat)(x:StX)(qu:Int)(ar:Bool)(lf:Int)(dn:Bool)(w:World)(hS:StRd w b ⟨none,qu,ar,lf,dn⟩ x)(hd:dn=false):Calls Tryz.prog 67 [pX b,.string nmR].toArray w fun e w'=>e= .returned (.tuple #[nX,iX 4])/\Ch (fun _=>False) w w':=by
 subst hd;obtain⟨hb,hm⟩:=hS;have h:=Sep.nil w;refine yA Tryz.func67 rfl<|yx 2<|ysr<|yq 2<|yo (yQ (h.look (find_0 b x qu ar lf false _ ⟨(hb.ch h.ch id),(hm.ch h.ch id)⟩ rfl)) fun u h=>?_);refine yz 8<|ys<|yx 2<|yct<|yx 3<|q9 (rS (yR2 [nX,iX 4] .z ?_));exact⟨rfl,h.ch⟩
def styG (x:Int):Sty:=⟨decide (0<qe .and .i64 x 256),decide (0<qe .and .i64 x 512),decide (0<qe .and .i64 x 1024),qe .and .i64 x 15,qe .and .i64 (Int.fdiv x (2^min (4:Int).toNat (IntKind.bits .i64))) 15⟩
set_option maxRecDepth 100000 in
theorem styG_all:∀n,n<2048->styG ((n:Nat):Int)=qk0 n:=by decide+kernel
theorem ql9 {s s1:RS}{x:Int}(h:qM 2048 s=(x,s1)):qgB s=if(s1.isSome&&qB (styG x))=true then(styG x,true,s1)else(qd7,false,s1):=by
 have hb:=qa6 (lim:=2048) (s:=s);rw[h]at hb;dsimp only at hb;have a:=hb.2.2 (by decide);have e:styG x=qk0 x.toNat:=by
  have:=styG_all x.toNat (by omega);rwa[Int.toNat_of_nonneg hb.1]at this
 unfold qgB;rw[h,e]
theorem qmb {l:List Cel}{c:Cel}{i k:Nat}(hik:i<=k)(hk:k<=l.length)(h:∀j:Nat,i<=j->j<k->gc l (j:Int)=c):l.drop i=List.replicate (k-i) c++l.drop k:=by
 apply List.ext_getElem?;intro j;rw[List.getElem?_drop,List.getElem?_append,List.length_replicate];split
 ·rename_i hj;rw[List.getElem?_replicate,if_pos hj,List.getElem?_eq_getElem (by omega),<-qd9 (by omega),h (i+j) (by omega) (by omega)]
 rename_i hj;rw[List.getElem?_drop];congr 1;omega
theorem qkh (x y:Int):qad [x,y]=qS x.toNat++qS y.toNat:=by simp[qad]
theorem qpl {l:List Cel}{k:Nat}(h:k<l.length):(l.drop k).head? =some (gc l (k:Int)):=by
 rw[List.head?_drop,List.getElem?_eq_getElem h,qd9 h]
theorem qeW {rv D:Nat}{s0 s1:RS}{t:Sty}{ok:Bool}{w:World}(hA:RdrAt w rv D s0)(hS:qgB s0=(t,ok,s1)):Calls Tryz.prog 115 [pX rv].toArray w fun e w'=>e= .returned (.tuple #[.agg #[.bool t.bold,.bool t.under,.bool t.turned,iX t.fore,iX t.back],.bool ok])/\RdrAt w' rv D s1/\Ch (· =rv) w w':=by
 refine yA Tryz.func115 rfl<|ysr<|yo (yN [.bool false,.bool false,.bool false,iX 0,iX 0] 84 fun P c Q am R v=>?_);have S:Ch (· =rv) w P:=zt (Ch.refl (· =rv) w) v eZ;have d:w.heap.size<=c:=by rw[Q];exact zzs (Ch.refl (· =rv) w)
 have T:=hA.ch v id id;refine yz 2<|ysr<|yq 1 ?_;obtain⟨b,U,f⟩:∃x s',qM (2048) s0=(x,s'):=⟨_,_,rfl⟩
 have y:=qa6 (lim:=2048) (s:=s0);rw[f]at y;dsimp only at y;refine yo (yQ (qY (lim:=2048) T f (by omega)) ?_);rintro V ⟨W,A⟩;have B:Ch (· =rv) w V:=zt S A iZ;have C:=R.ch A (fun(h:c=rv)=>by have:=d;have:=hA.lt;omega);refine yz 3<|ysr<|yp 15 [] (.p (q:=0<=(4:Int)) (by omega) .z)<|yo (yN [.bool false,.bool false,.bool false,iX 0,iX 0] 84 fun X g Y an Z m=>?_);have a0:Ch (· =rv) w X:=zt B m eZ;have n:=zn Y B;have a1:=C.ch m id;have a2:=W.ch m id id;refine yo (yT [.bool (decide (0<(qe .and .i64 b 256))),.bool (decide (0<(qe .and .i64 b 512))),.bool (decide (0<(qe .and .i64 b 1024))),iX (qe .and .i64 b 15),iX (qe .and .i64 (Int.fdiv b (2^min (4:Int).toNat (IntKind.bits .i64))) 15)] Z fun a3 a4 o=>?_);have a5:Ch (· =rv) w a3:=zt a0 o (fun i hi (h:i=g)=>by have:=n;omega);have a6:=a1.ch o (fun(h:c=g)=>by have:=C.lt;omega);have E:=a2.ch o (fun(h:rv=g)=>by have:=n;have:=hA.lt;omega) (fun(h:D=g)=>by have:=n;have:=hA.dlt;omega);refine ye<|ys<|ysr<|yq 1<|yo (yQ (qg8 E) fun a7 j=>?_);have F:Ch (· =rv) w a7:=zt a5 j eZ;have G:=a6.ch j id;have H:=E.ch j id id;have I:=a4.ch j id;refine yq 4<|yw [26] (rN (rY U.isSome)) (fun k=>?_) fun k=>?_
 ·refine yz 8<|yct<|ysr<|yq 1<|yo (yT [.bool false,.bool false,.bool false,iX 0,iX 0] G fun a8 a9 J=>?_);have aa:Ch (· =rv) w a8:=zt F J (fun i hi (h:i=c)=>by have:=d;omega);have ab:=H.ch J (fun(h:rv=c)=>by have:=d;have:=hA.lt;omega) (fun(h:D=c)=>by have:=d;have:=hA.dlt;omega);refine yz 3<|q9 (rS (yR2 [.agg #[.bool false,.bool false,.bool false,iX 0,iX 0],.bool false] (.a (a9.cs 0 5) .z) ?_));rw[ql9 f]at hS;rw[if_neg (by rw[k];simp)]at hS;simp only[Prod.mk.injEq]at hS;obtain⟨rfl,rfl,rfl⟩:=hS;exact⟨rfl,ab,aa⟩
 refine yp 5 [] (.a (I.cs 0 5) .z)<|yo (yQ (qjk ⟨(decide (0<(qe .and .i64 b 256))),(decide (0<(qe .and .i64 b 512))),(decide (0<(qe .and .i64 b 1024))),(qe .and .i64 b 15),(qe .and .i64 (Int.fdiv b (2^min (4:Int).toNat (IntKind.bits .i64))) 15)⟩ _) fun ac l=>?_);have K:Ch (· =rv) w ac:=zt F l eZ;have L:=G.ch l id;have M:=H.ch l id id;have ad:=I.ch l id;refine yz 8<|yc (rN (rY (qB ⟨(decide (0<(qe .and .i64 b 256))),(decide (0<(qe .and .i64 b 512))),(decide (0<(qe .and .i64 b 1024))),(qe .and .i64 b 15),(qe .and .i64 (Int.fdiv b (2^min (4:Int).toNat (IntKind.bits .i64))) 15)⟩))) (fun r=>?_) fun r=>?_
 ·have u:qB (styG b)=false:=r;refine ysr<|yq 1<|yo (yT [.bool false,.bool false,.bool false,iX 0,iX 0] L fun ae af N=>?_);have ag:Ch (· =rv) w ae:=zt K N (fun i hi (h:i=c)=>by have:=d;omega);have ah:=M.ch N (fun(h:rv=c)=>by have:=d;have:=hA.lt;omega) (fun(h:D=c)=>by have:=d;have:=hA.dlt;omega);refine yz 3<|q9 (rS (yR2 [.agg #[.bool false,.bool false,.bool false,iX 0,iX 0],.bool false] (.a (af.cs 0 5) .z) ?_));rw[ql9 f]at hS;rw[if_neg (by rw[k,u];decide)]at hS;simp only[Prod.mk.injEq]at hS;obtain⟨rfl,rfl,rfl⟩:=hS;exact⟨rfl,ah,ag⟩
 have u:qB (styG b)=true:=r;refine yk<|ysr<|yp 1 [] (.a (ad.cs 0 5) .z)<|yo (yT [.bool (decide (0<(qe .and .i64 b 256))),.bool (decide (0<(qe .and .i64 b 512))),.bool (decide (0<(qe .and .i64 b 1024))),iX (qe .and .i64 b 15),iX (qe .and .i64 (Int.fdiv b (2^min (4:Int).toNat (IntKind.bits .i64))) 15)] L fun ai aj O=>?_);have ak:Ch (· =rv) w ai:=zt K O (fun i hi (h:i=c)=>by have:=d;omega);have al:=M.ch O (fun(h:rv=c)=>by have:=d;have:=hA.lt;omega) (fun(h:D=c)=>by have:=d;have:=hA.dlt;omega);refine yz 3<|q9 (yR2 [.agg #[.bool (decide (0<(qe .and .i64 b 256))),.bool (decide (0<(qe .and .i64 b 512))),.bool (decide (0<(qe .and .i64 b 1024))),iX (qe .and .i64 b 15),iX (qe .and .i64 (Int.fdiv b (2^min (4:Int).toNat (IntKind.bits .i64))) 15)],.bool true] (.a (aj.cs 0 5) .z) ?_);rw[ql9 f]at hS;rw[if_pos (by rw[k,u];rfl)]at hS;simp only[Prod.mk.injEq]at hS;obtain⟨rfl,rfl,rfl⟩:=hS;exact⟨rfl,al,ak⟩
theorem qe6 {o:Option Nat}{n cap:Nat}{xs:List Int}{w:World}(hO:Own w tU8 1 o n cap (u8s xs))(lb ln lc:Nat)(l:List Cel)(hr:Rd w (some ⟨lb,0,none⟩) (qal l))(hlb:lb<w.heap.size)(hne:∀b,o=some b-> ¬b=lb)(hln:l.length=ln)(hcs:∀c∈l,cOk c)(hz:n+30*ln<=1000000000):Calls Tryz.prog 58 [.slice (o.map at0) n cap,.slice (some ⟨lb,0,none⟩) ln lc].toArray w fun e w'=> ∃o' n' cap',e= .returned (.slice (o'.map at0) n' cap')/\Own w' tU8 1 o' n' cap' (u8s (xs++qa2 l))/\n'<=n+30*ln/\App w w' o o':=by
 refine yA Tryz.func58 rfl<|yx 1<|ys<|yx 1<|qa<|qT [0,1,5] (f':=[(0,.slice (o.map at0) n cap),(1,.slice (some ⟨lb,0,none⟩) ln lc),(5,iX 0)])<|qx (σ:=Nat×List Int×Option Nat×Nat×Nat) (fun⟨i,ws,g,r,s⟩=>[(0,.slice (g.map at0) r s),(1,.slice (some ⟨lb,0,none⟩) ln lc),(5,iX ((i:Nat):Int))]) (fun⟨i,ws,g,r,s⟩ u=>i<=ln/\ws++qa2 (l.drop i)=qa2 l/\Own u tU8 1 g r s (u8s (xs++ws))/\App w u o g/\r<=n+30*i) (fun⟨i,ws,g,r,s⟩=>ln-i) (0,[],o,n,cap) rfl ?_ ?_
 ·exact⟨Nat.zero_le _,rfl,by rw[List.append_nil];exact hO,App.refl _ _,Nat.le_refl _⟩
 intro p ac ad aP V;obtain⟨i,ws,g,r,s⟩:=p;obtain⟨hi,B,H,C,aQ⟩:=ad;have ae:=Ch.rd C.ch hr (fun h=>hne _ h rfl);have d:=C.apart hlb hne;refine ys<|yx 4<|yc (rL ((i:Nat):Int) ((ln:Nat):Int)) (fun af=>?_) fun af=>?_
 ·have ag:=hcs _ (gc_mem (l:=l) (i:=i) (by omega));obtain⟨W,aR,aS⟩:=ag;refine yk<|qa<|yx 2<|ys<|qa<|qT [0,1,5,6] (f':=[(0,.slice (g.map at0) r s),(1,.slice (some ⟨lb,0,none⟩) ln lc),(5,iX ((i:Nat):Int)),(6,iX ((i:Nat):Int))])<|qx (σ:=Nat) (fun k=>[(0,.slice (g.map at0) r s),(1,.slice (some ⟨lb,0,none⟩) ln lc),(5,iX ((i:Nat):Int)),(6,iX ((k:Nat):Int))]) (fun k u=>i<=k/\k<=ln/\(∀j:Nat,i<=j->j<k->gc l (j:Int)=gc l ((i:Nat):Int))/\Ch (fun _=>False) ac u) (fun k=>ln-k) i rfl ?_ ?_
  ·exact⟨Nat.le_refl _,hi,fun j X h2=>by omega,Ch.refl _ _⟩
  intro k aT ai aU aj;obtain⟨ak,aV,I,D⟩:=ai;have al:=H.ch D iZ;have am:=C.step D iZ;have an:=Ch.rd D ae id;refine ys<|ys<|yD [] fun aW aX E=>?_;have ao:=zt D E iZ;have Y:=al.ch E iZ;have Z:=am.step E iZ;have f:=Ch.rd E an id;refine yd (uL 0 5) [] .z<|yv [16] (rL ((k:Nat):Int) ((ln:Nat):Int)) (fun ap=>?_) fun ap=>?_
  ·refine yd (uL 5 10) [] (.i ((k:Nat):Int) (ln) (.m (qek (i:=((k:Nat):Int)) f (by omega) (by omega)) (.m (qel (i:=((k:Nat):Int)) f (by omega) (by omega)) (.m (qcX (i:=((k:Nat):Int)) f (by omega) (by omega)) (.m (qc3 (i:=((k:Nat):Int)) f (by omega) (by omega)) (.m (qem (i:=((k:Nat):Int)) f (by omega) (by omega)) (.m (qen (i:=((k:Nat):Int)) f (by omega) (by omega)) (.e (.i ((i:Nat):Int) (ln) (.m (qek (i:=((i:Nat):Int)) f (by omega) (by omega)) (.m (qel (i:=((i:Nat):Int)) f (by omega) (by omega)) (.m (qcX (i:=((i:Nat):Int)) f (by omega) (by omega)) (.m (qc3 (i:=((i:Nat):Int)) f (by omega) (by omega)) (.m (qem (i:=((i:Nat):Int)) f (by omega) (by omega)) (.m (qen (i:=((i:Nat):Int)) f (by omega) (by omega)) (.e .z))))))))))))))))<|yDe (nS ?_);refine yc (rY ((((gc l ((k:Nat):Int)).rune:Int)==(gc l ((i:Nat):Int)).rune)&&((((gc l ((k:Nat):Int)).sty.bold==(gc l ((i:Nat):Int)).sty.bold)&&(((gc l ((k:Nat):Int)).sty.under==(gc l ((i:Nat):Int)).sty.under)&&(((gc l ((k:Nat):Int)).sty.turned==(gc l ((i:Nat):Int)).sty.turned)&&((((gc l ((k:Nat):Int)).sty.fore:Int)==(gc l ((i:Nat):Int)).sty.fore)&&((((gc l ((k:Nat):Int)).sty.back:Int)==(gc l ((i:Nat):Int)).sty.back)&&true)))))&&true))) (fun t=>?_) fun t=>?_
   ·rw[qiB]at t;have aq:=eq_of_beq t;refine yk<|qa<|q7<|yp 3 [] (.q6 (((k:Nat):Int)+1) .z)<|yE (nB (fun a ha=>aj (k+1) _ ⟨by omega,by omega,fun j X h2=>(Nat.lt_or_ge j k).elim (I j X) (fun h3=>by rw[show j=k by omega];exact aq),ao⟩ (by show ln-(k+1)<ln-k;omega) a (ha.kp [0,1,5,6])))
   rw[qiB]at t;have J:(l.drop k).head? ≠some (gc l ((i:Nat):Int)):=by rw[qpl (by omega)];intro e;rw[zi e]at t;simp at t
   have ar:i<k:=by
    rcases Nat.eq_or_lt_of_le ak with e|e
    ·subst e;simp at t
    exact e
   refine ql (eS (qd (qb (nS ?_))));refine ys<|qaG (fun b=>g=some b) [18] (by kernel_rfl) (fun aZ b0 K=>?_);have a0:=Y.ch K iZ;have au:=Z.step K iZ;have v:=Ch.rd K f id;refine ydC [0,1,2,3,4,5,6,7,8,9,10,13,14,15,16,17] [4,10] (fun u hu=>(.q6 (((k:Nat):Int)-((i:Nat):Int)) (.p (q:=InR .u64 (((k:Nat):Int)-((i:Nat):Int))) (qam (by omega) (by omega)) (.i ((i:Nat):Int) (ln) (.l (qg hu (qek (i:=((i:Nat):Int)) v (by omega) (by omega)) (fun h=>d _ h rfl)) (.p (q:=InR .u64 (gc l ((i:Nat):Int)).rune) (qam (by omega) (by omega)) (.i ((i:Nat):Int) (ln) (.m (qg hu (qel (i:=((i:Nat):Int)) v (by omega) (by omega)) (fun h=>d _ h rfl)) (.m (qg hu (qcX (i:=((i:Nat):Int)) v (by omega) (by omega)) (fun h=>d _ h rfl)) (.m (qg hu (qc3 (i:=((i:Nat):Int)) v (by omega) (by omega)) (fun h=>d _ h rfl)) (.m (qg hu (qem (i:=((i:Nat):Int)) v (by omega) (by omega)) (fun h=>d _ h rfl)) (.m (qg hu (qen (i:=((i:Nat):Int)) v (by omega) (by omega)) (fun h=>d _ h rfl)) (.e .z)))))))))))))<|yH 11 (yB [.int .u64 (((k:Nat):Int)-((i:Nat):Int)),.int .u64 (gc l ((i:Nat):Int)).rune] 110 2 fun b1 av b2 b3 F L=>?_);have M:=zv (b:=av) a0;have aw:=a0.ch L iZ;have a1:=au.step L iZ;refine qz L eZ<|yH 12 (yC (qcB 2 [(((k:Nat):Int)-((i:Nat):Int)),(gc l ((i:Nat):Int)).rune] aw (Rd.all F) (bC (bC bN)) F.lt M) ?_)
   rintro _ b4 ⟨b5,b6,b7,rfl,ax,b8,y⟩;refine⟨_,rfl,?_⟩;have ay:=y.apart (Nat.lt_of_lt_of_le hlb a1.ch.size) d;have az:=y.apart F.lt M;have a2:=a1.trans y;have aA:=F.ch y.ch (fun h=>M _ h rfl);refine qz y.ch iZ<|yK 18 (yC (qdx ax (gc l ((i:Nat):Int)).sty W (by omega)) ?_);rintro _ aB ⟨a3,a4,a5,rfl,aC,b9,N⟩;refine⟨_,rfl,?_⟩;have ba:=N.apart (Nat.lt_of_lt_of_le hlb a2.ch.size) ay;have bb:=N.apart aA.lt az;have aD:=a2.trans N;refine q8<|yd [19] [] .z<|yDe (nS ?_);refine q7<|yq 2 ?_;have O:(((k:Nat):Int)-((i:Nat):Int):Int).toNat=k-i:=by omega
   have P:(ws++qdq (k-i) (gc l ((i:Nat):Int)))++qa2 (l.drop k)=qa2 l:=by
    rw[<-B,qmb (c:=(gc l ((i:Nat):Int))) (by omega) (by omega) I,show k-i=(k-i-1)+1 by omega,qdr J,List.append_assoc]
   have Q:Own aB tU8 1 a3 a4 a5 (u8s (xs++(ws++qdq (k-i) (gc l ((i:Nat):Int))))):=by
    have h:=aC;rw[qkh,O]at h;unfold qdq;simp only[List.append_assoc]at h⊢;exact h
   refine yE (nB (fun a ha=>V (k,ws++qdq (k-i) (gc l ((i:Nat):Int)),a3,a4,a5) _ ⟨by omega,P,Q,aD,by omega⟩ (by show ln-k<ln-i;omega) a (ha.kp [0,1,5])))
  have J:(l.drop k).head? ≠some (gc l ((i:Nat):Int)):=by rw[List.drop_eq_nil_of_le (by omega)];simp
  have ar:i<k:=by omega
  refine yd (uL 5 10) [] .z<|yDe (nS ?_);refine ycf<|ql (eS (qd (qb (nS ?_))));refine ys<|qaG (fun b=>g=some b) [18] (by kernel_rfl) (fun bc bd R=>?_);have a6:=Y.ch R iZ;have aE:=Z.step R iZ;have x:=Ch.rd R f id;refine ydC [0,1,2,3,4,5,6,7,8,9,10,13,14,15,16,17] [4,10] (fun u hu=>(.q6 (((k:Nat):Int)-((i:Nat):Int)) (.p (q:=InR .u64 (((k:Nat):Int)-((i:Nat):Int))) (qam (by omega) (by omega)) (.i ((i:Nat):Int) (ln) (.l (qg hu (qek (i:=((i:Nat):Int)) x (by omega) (by omega)) (fun h=>d _ h rfl)) (.p (q:=InR .u64 (gc l ((i:Nat):Int)).rune) (qam (by omega) (by omega)) (.i ((i:Nat):Int) (ln) (.m (qg hu (qel (i:=((i:Nat):Int)) x (by omega) (by omega)) (fun h=>d _ h rfl)) (.m (qg hu (qcX (i:=((i:Nat):Int)) x (by omega) (by omega)) (fun h=>d _ h rfl)) (.m (qg hu (qc3 (i:=((i:Nat):Int)) x (by omega) (by omega)) (fun h=>d _ h rfl)) (.m (qg hu (qem (i:=((i:Nat):Int)) x (by omega) (by omega)) (fun h=>d _ h rfl)) (.m (qg hu (qen (i:=((i:Nat):Int)) x (by omega) (by omega)) (fun h=>d _ h rfl)) (.e .z)))))))))))))<|yH 11 (yB [.int .u64 (((k:Nat):Int)-((i:Nat):Int)),.int .u64 (gc l ((i:Nat):Int)).rune] 110 2 fun bf aF bg bh G S=>?_);have T:=zv (b:=aF) a6;have aG:=a6.ch S iZ;have a7:=aE.step S iZ;refine qz S eZ<|yH 12 (yC (qcB 2 [(((k:Nat):Int)-((i:Nat):Int)),(gc l ((i:Nat):Int)).rune] aG (Rd.all G) (bC (bC bN)) G.lt T) ?_)
  rintro _ bi ⟨bj,bk,bl,rfl,aH,bm,A⟩;refine⟨_,rfl,?_⟩;have aI:=A.apart (Nat.lt_of_lt_of_le hlb a7.ch.size) d;have aJ:=A.apart G.lt T;have a8:=a7.trans A;have aK:=G.ch A.ch (fun h=>T _ h rfl);refine qz A.ch iZ<|yK 18 (yC (qdx aH (gc l ((i:Nat):Int)).sty W (by omega)) ?_);rintro _ aL ⟨a9,aa,ab,rfl,aM,bn,U⟩;refine⟨_,rfl,?_⟩;have bo:=U.apart (Nat.lt_of_lt_of_le hlb a8.ch.size) aI;have bp:=U.apart aK.lt aJ;have aN:=a8.trans U;refine q8<|yd [19] [] .z<|yDe (nS ?_);refine q7<|yq 2 ?_;have O:(((k:Nat):Int)-((i:Nat):Int):Int).toNat=k-i:=by omega
  have P:(ws++qdq (k-i) (gc l ((i:Nat):Int)))++qa2 (l.drop k)=qa2 l:=by
   rw[<-B,qmb (c:=(gc l ((i:Nat):Int))) (by omega) (by omega) I,show k-i=(k-i-1)+1 by omega,qdr J,List.append_assoc]
  have Q:Own aL tU8 1 a9 aa ab (u8s (xs++(ws++qdq (k-i) (gc l ((i:Nat):Int))))):=by
   have h:=aM;rw[qkh,O]at h;unfold qdq;simp only[List.append_assoc]at h⊢;exact h
  refine yE (nB (fun a ha=>V (k,ws++qdq (k-i) (gc l ((i:Nat):Int)),a9,aa,ab) _ ⟨by omega,P,Q,aN,by omega⟩ (by show ln-k<ln-i;omega) a (ha.kp [0,1,5])))
 refine ql (eS (qd (qb (nS ?_))));refine yx 2<|q9 (yR1 (.slice (g.map at0) r s) ?_);rw[List.drop_eq_nil_of_le (by omega)]at B;have aO:ws=qa2 l:=by rw[<-B];exact(List.append_nil _).symm
 rw[aO]at H;exact⟨_,_,_,rfl,H,by omega,C⟩
def okAt (l:List Cel)(i:Nat):Prop:=((gc l (i:Int)).rune=0->qW l ((i:Int)-1)=true)/\((gc l (i:Int)).rune≠0->qkA (gc l (i:Int))=true/\(qaX (gc l (i:Int)).rune=true->qW l (i:Int)=true))
theorem qla {l:List Cel}{k:Nat}(h:∀i:Nat,i<k->okAt l i)(hb:okAt l k):∀i:Nat,i<k+1->okAt l i:=fun i hi=>by
  rcases Nat.lt_or_ge i k with h'|h'
  · exact h i h'
  · obtain rfl:i=k:=by omega
    exact hb
theorem qpm (b n cap:Nat)(l:List Cel)(w:World)(hT:qag w)(hr:Rd w (some ⟨b,0,none⟩) (qal l))(hb:b<w.heap.size)(hln:l.length=n)(hnb:n<=1000000):Calls Tryz.prog 136 [.slice (some ⟨b,0,none⟩) n cap].toArray w fun e w'=>e= .returned (.bool (qb1 l))/\Ch (fun _=>False) w w':=by
 refine yA Tryz.func136 rfl<|yx 1<|ys<|yx 3<|qa<|qT [0,5,6,7] (f':=[(0,.slice (some ⟨b,0,none⟩) n cap),(5,.slice (some ⟨b,0,none⟩) n cap),(6,iX ((n:Nat):Int)),(7,iX 0)])<|qx (σ:=Nat) (fun k=>[(0,.slice (some ⟨b,0,none⟩) n cap),(5,.slice (some ⟨b,0,none⟩) n cap),(6,iX ((n:Nat):Int)),(7,iX ((k:Nat):Int))]) (fun k u=>k<=n/\(∀i:Nat,i<k->okAt l i)/\Ch (fun _=>False) w u) (fun k=>n-k) 0 rfl ?_ ?_
 ·exact⟨Nat.zero_le _,fun i hi=>absurd hi (Nat.not_lt_zero i),Ch.refl _ _⟩
 intro k ae R af x;obtain⟨hk,d,g⟩:=R;have r:=zu (zm w) g iZ;have S:=qh g hT id id;have f:=Ch.rd g hr id;refine yx 1<|ys<|yc (rL ((k:Nat):Int) ((n:Nat):Int)) (fun T=>?_) fun T=>?_
 ·refine yk<|ys<|qa<|ysr<|yp 3 [] (.i ((k:Nat):Int) (n) (.m (qek (i:=((k:Nat):Int)) f (by omega) (by omega)) (.m (qel (i:=((k:Nat):Int)) f (by omega) (by omega)) (.m (qcX (i:=((k:Nat):Int)) f (by omega) (by omega)) (.m (qc3 (i:=((k:Nat):Int)) f (by omega) (by omega)) (.m (qem (i:=((k:Nat):Int)) f (by omega) (by omega)) (.m (qen (i:=((k:Nat):Int)) f (by omega) (by omega)) (.e .z))))))))<|yo (yN [rX 0,.bool false,.bool false,.bool false,iX 0,iX 0] 159 fun ag j G ah U s=>?_);have ai:=zn G r;have aj:=zn G g;have V:=zu r s iZ;have W:=zt g s eZ;have X:=qh s S id id;have Y:=Ch.rd s f id;refine yq 5<|yo (yT [rX (gc l ((k:Nat):Int)).rune,.bool (gc l ((k:Nat):Int)).sty.bold,.bool (gc l ((k:Nat):Int)).sty.under,.bool (gc l ((k:Nat):Int)).sty.turned,iX (gc l ((k:Nat):Int)).sty.fore,iX (gc l ((k:Nat):Int)).sty.back] U fun ak y t=>?_);have A:=zu V t (fun i hi (h:i=j)=>by omega);have H:=zt W t (fun i hi (h:i=j)=>by omega);have I:=qh t X (fun(h:qdR=j)=>by have:=qc0 hT;omega) (fun(h:qbZ=j)=>by have:=qc0 hT;omega);have J:=Ch.rd t Y (fun(h:b=j)=>by have:=(Nat.lt_of_lt_of_le hb (zzs r));omega);refine ye<|qa<|ysr<|yp 4 [] (.l (y.c 0) .z)<|ye<|yc (rE (gc l ((k:Nat):Int)).rune 0) (fun B=>?_) fun B=>?_
  ·have Z:=B;refine ysr<|yp 3 [] (.q6 (((k:Nat):Int)-1) .z) ?_;refine yo (yQ (qcG b n cap l (((k:Nat):Int)-1) _ I J (Nat.lt_of_lt_of_le hb (zzs A)) hln (by omega) (by constructor<;>omega)) fun al K=>?_);have a0:=zu A K iZ;have a1:=zt H K eZ;refine yz 5<|yc (rN (rY (qW l (((k:Nat):Int)-1)))) (fun C=>?_) fun C=>?_
   ·have a2:=C;refine yx 1<|q9 (rB (rB (rS (qt (rB (rS (yR1 (.bool false) ?_)))))));refine⟨zc ?_,Up.ch a0⟩;exact(Bool.eq_false_iff.2 fun h=>by
     have o:=wholeB_iff.1 h k (by omega);clear h d;simp[Z,a2]at o).symm
   have am:=C;refine qk (nB (nB (nS ?_)));refine q7<|yp 2 [] (.q6 (((k:Nat):Int)+1) .z)<|yE (fun a ha=>x (k+1) _ ⟨by omega,qla d ⟨fun p=>by simp_all,fun p=>by simp_all⟩,a1⟩ (by show n-(k+1)<n-k;omega) a (ha.kp [0,5,6,7]))
  have L:=B;refine ysr<|yp 1 [] (.a (y.cs 0 6) .z)<|yo (yQ (qlt (gc l ((k:Nat):Int)) _) fun an q=>?_);have M:=zu A q iZ;have a3:=zt H q eZ;have N:=qh q I id id;have a4:=Ch.rd q J id;have a5:=y.ch q id;refine yq 4<|yw [25] (rN (rY (qkA (gc l ((k:Nat):Int))))) (fun D=>?_) fun D=>?_
  ·have a6:=D;refine yz 15<|yct<|yx 1<|q9 (rB (rB (rS (qt (rB (rS (yR1 (.bool false) ?_)))))));refine⟨zc ?_,Up.ch M⟩;exact(Bool.eq_false_iff.2 fun h=>by
    have o:=wholeB_iff.1 h k (by omega);clear h d;simp[L,a6]at o).symm
  have a7:=D;refine yp 6 [] (.l (a5.c 0) .z)<|yo (yQ (qbF (gc l ((k:Nat):Int)).rune _ N.1) fun ao hq=>?_);have v:=qc4 hq;clear hq;have O:=zu M v iZ;have P:=zt a3 v eZ;have a8:=qh v N id id;have a9:=Ch.rd v a4 id;refine yq 8<|yw [29] (rY (qaX (gc l ((k:Nat):Int)).rune)) (fun E=>?_) fun E=>?_
  ·have aa:=E;refine yq 10 ?_;refine yo (yQ (qcG b n cap l ((k:Nat):Int) _ a8 a9 (Nat.lt_of_lt_of_le hb (zzs O)) hln (by omega) (by constructor<;>omega)) fun ap Q=>?_);have ab:=zu O Q iZ;have ac:=zt P Q eZ;refine yz 15<|yc (rN (rY (qW l ((k:Nat):Int)))) (fun F=>?_) fun F=>?_
   ·have ad:=F;refine yx 1<|q9 (rB (rB (rS (qt (rB (rS (yR1 (.bool false) ?_)))))));refine⟨zc ?_,Up.ch ab⟩;exact(Bool.eq_false_iff.2 fun h=>by
     have o:=wholeB_iff.1 h k (by omega);clear h d;simp[L,a7,aa,ad]at o).symm
   have aq:=F;refine qk (nB (nB (nS ?_)));refine q7<|yp 2 [] (.q6 (((k:Nat):Int)+1) .z)<|yE (fun a ha=>x (k+1) _ ⟨by omega,qla d ⟨fun p=>by simp_all,fun p=>by simp_all⟩,ac⟩ (by show n-(k+1)<n-k;omega) a (ha.kp [0,5,6,7]))
  have ar:=E;refine yz 15<|ycf<|qk (nB (nB (nS ?_)));refine q7<|yp 2 [] (.q6 (((k:Nat):Int)+1) .z)<|yE (fun a ha=>x (k+1) _ ⟨by omega,qla d ⟨fun p=>by simp_all,fun p=>by simp_all⟩,P⟩ (by show n-(k+1)<n-k;omega) a (ha.kp [0,5,6,7]))
 have au:k=n:=by omega
 refine ql (eS (qd (qb (nS ?_))));refine yx 1<|q9 (yR1 (.bool true) ?_);refine⟨zc ?_,Up.ch r⟩;exact(wholeB_iff.2 fun i hi=>d i (by omega)).symm
theorem qpn {w:World}{a:Option Addr}{n:Nat}{ro:List Row}{FB:Nat->Prop}(hz:a=none\/ ∃b off,a=some ⟨b,off,none⟩)(h:LinesAt w a n ro FB)(hn:0<n):∃b off,a=some ⟨b,off,none⟩:=by
 rcases hz with rfl|hz
 ·have e:=h.rd.1 rfl;have:=h.len;rw[List.map_eq_nil_iff]at e;subst e;simp at this;omega
 exact hz
theorem qgM {w:World}{b off:Nat}{rows:List Row}(h:Rd w (some ⟨b,off,none⟩) (rows.map Row.val)){k:Nat}{x:Row}(hx:rows[k]? =some x):w.cell? ⟨b,off+((k:Nat):Int).toNat*1,none⟩=some x.val:=by
 rw[Int.toNat_natCast,Nat.mul_one];exact qci h k _ (by rw[List.getElem?_map,hx];rfl)
theorem qki (l:List Cel)(c:Cel):qal l++c.vals=qal (l++[c]):=by rw[qbG,qal,qal];simp
theorem qpo {l:List Cel}{n:Nat}(hn:l.length=n)(h:0<n):l.getLast? =some (gc l ((n:Int)-1)):=by
 rw[List.getLast?_eq_getElem?,List.getElem?_eq_getElem (by omega),show((n:Int)-1)=((l.length-1:Nat):Int) by omega,qd9 (by omega)]
theorem qgN {w:World}{e:TypeId}{sz:Nat}{o:Option Nat}{n cap:Nat}{xs:List Value}(h:Own w e sz o n cap xs)(hn:0<n):∃b,o=some b:=by
 cases o with
 |none=>have:=(h.2.2.2.1 rfl).1;omega
 |some b=>exact⟨b,rfl⟩
theorem qlb {W:Int}{s0 s s':RS}{f:Nat}{l:List Cel}(h:qbW f W l s=qbW W.toNat W [] s0)(e:qbW f W l s=(none,s')):qds W s0=([],false,s'):=by
 unfold qds;rw[<-h,e]
theorem qiP {W:Int}{s0 s s':RS}{f:Nat}{l o:List Cel}(h:qbW f W l s=qbW W.toNat W [] s0)(e:qbW f W l s=(some o,s')):qds W s0=if qb1 o=true then(o,true,s')else([],false,s'):=by
 unfold qds;rw[<-h,e]
theorem qpp (w:World):Calls Tryz.prog 136 [nX].toArray w fun e w'=>e= .returned (.bool (qb1 []))/\Ch (fun _=>False) w w':=by
 refine yA Tryz.func136 rfl<|yx 1<|ys<|yx 3<|qa<|yU 1 (yU1 ?_);refine yx 1<|ys<|ycf<|ql (eS (qd (qb (nS ?_))));refine yx 1<|q9 (yR1 (.bool true) ?_);exact⟨rfl,Up.ch (zm w)⟩
theorem qmc {α:Type}{b:Bool}{x y:α}(h:b=false):(if b=true then x else y)=y:=by rw[h];rfl
theorem qkj {rv D:Nat}{s0 s1:RS}{W:Int}{l:List Cel}{ok:Bool}{w:World}(hA:RdrAt w rv D s0)(hT:qag w)(h7:gTop<=rv)(hW:0<=W/\W<=1000)(hL:qds W s0=(l,ok,s1)):Calls Tryz.prog 116 [pX rv,iX W].toArray w fun e w'=>
 ∃o n cap,e= .returned (.tuple #[.slice (o.map at0) n cap,.bool ok])/\l.length=n/\Own w' qdf 6 o n cap (qal l)/\(∀b,o=some b->w.heap.size<=b)/\RdrAt w' rv D s1/\Ch (· =rv) w w':=by
 refine yA Tryz.func116 rfl<|yx 2<|yx 1<|ys<|qa<|qT [0,1,6] (f':=[(0,pX rv),(1,iX W),(6,nX)])<|qx (σ:=List Cel×RS×Option Nat×Nat×Nat) (fun⟨l,s,o,n,cap⟩=>[(0,pX rv),(1,iX W),(6,.slice (o.map at0) n cap)]) (fun⟨l,s,o,n,cap⟩ u=>(∃f,W.toNat-l.length<=f/\qbW f W l s=qbW W.toNat W [] s0)/\l.length=n/\(n:Int)<=W/\Own u qdf 6 o n cap (qal l)/\(∀b,o=some b->w.heap.size<=b)/\RdrAt u rv D s/\Ch (· =rv) w u) (fun⟨l,s,o,n,cap⟩=>W.toNat-l.length) ([],s0,none,0,0) rfl ?_ ?_
 ·exact⟨⟨W.toNat,by simp,rfl⟩,rfl,by omega,Own.nil _ _ _,(fun b e=>by cases e),hA,Ch.refl _ _⟩
 intro p c9 aL ca ak;obtain⟨l,s,o,n,cap⟩:=p;obtain⟨⟨f,hf,A⟩,C,cb,hO,G,a7,T⟩:=aL;have cc:n<=cap:=hO.2.1;refine ys<|yx 4<|yc (rL ((n:Nat):Int) W) (fun aM=>?_) fun aM=>?_
 ·refine yk<|qa<|ysr<|yp 6 [] (.q6 (W-((n:Nat):Int)) (.q6 ((W-((n:Nat):Int))+1) .z)) ?_;obtain⟨k,al,H⟩:∃x s',qM (((W-((n:Nat):Int))+1)) s=(x,s'):=⟨_,_,rfl⟩
  have am:=qa6 (lim:=((W-((n:Nat):Int))+1)) (s:=s);rw[H]at am;dsimp only at am;refine yo (yQ (qY (lim:=((W-((n:Nat):Int))+1)) a7 H (by omega)) ?_);rintro aN ⟨aO,an⟩;have aP:Ch (· =rv) w aN:=zt T an iZ;have aQ:=hO.ch an (fun b e (h:b=rv)=>by have:=G b e;have:=hA.lt;omega);refine yq 8 ?_;obtain⟨d,aR,I⟩:∃x s',qM (1114112) al=(x,s'):=⟨_,_,rfl⟩
  have ao:=qa6 (lim:=1114112) (s:=al);rw[I]at ao;dsimp only at ao;refine yo (yQ (qY (lim:=1114112) aO I (by omega)) ?_);rintro aS ⟨aT,ap⟩;have aq:Ch (· =rv) w aS:=zt aP ap iZ;have ar:=aQ.ch ap (fun b e (h:b=rv)=>by have:=G b e;have:=hA.lt;omega);refine yp 11 [] (.q3 d .z)<|yo (yN [rX 0,.bool false,.bool false,.bool false,iX 0,iX 0] 159 fun aU r aV cd aW a8=>?_);have U:=zv (b:=r) ar;have aX:Ch (· =rv) w aU:=zt aq a8 eZ;have J:=zn aV aq;have aY:=ar.ch a8 iZ;have aZ:=aT.ch a8 id id;refine yq 13<|yo (yT [rX d,.bool false,.bool false,.bool false,iX 0,iX 0] aW fun b0 b1 a9=>?_);have b2:Ch (· =rv) w b0:=zt aX a9 (fun i hi (h:i=r)=>by have:=J;omega);have b3:=aY.ch a9 (fun b e (h:b=r)=>U b e h);have b4:=aZ.ch a9 (fun(h:rv=r)=>by have:=J;have:=hA.lt;omega) (fun(h:D=r)=>by have:=J;have:=hA.dlt;omega);refine ye<|ysr<|yq 1 ?_;obtain⟨c,b5,V,M⟩:∃t ok s',qgB aR=(t,ok,s'):=⟨_,_,_,rfl⟩
  refine yo (yQ (qeW b4 M) ?_);rintro b6 ⟨b7,aa⟩;have au:Ch (· =rv) w b6:=zt b2 aa iZ;have av:=b3.ch aa (fun b e (h:b=rv)=>by have:=G b e;have:=hA.lt;omega);have aw:=b1.ch aa (fun(h:r=rv)=>by have:=J;have:=hA.lt;omega);refine yq 5<|yo (yN [.bool false,.bool false,.bool false,iX 0,iX 0] 84 fun b8 N b9 ce ba X=>?_);have bb:=zv (b:=N) av;have bc:Ch (· =rv) w b8:=zt au X eZ;have ab:=zn b9 au;have bd:=av.ch X iZ;have bf:=aw.ch X id;have bg:=b7.ch X id id;refine yo (yT [.bool c.bold,.bool c.under,.bool c.turned,iX c.fore,iX c.back] ba fun bh bi Y=>?_);have bj:Ch (· =rv) w bh:=zt bc Y (fun i hi (h:i=N)=>by have:=ab;omega);have bk:=bd.ch Y (fun b e (h:b=N)=>bb b e h);have bl:=bf.ch Y (fun(h:r=N)=>by have:=aw.lt;omega);have bm:=bg.ch Y (fun(h:rv=N)=>by have:=ab;have:=hA.lt;omega) (fun(h:D=N)=>by have:=ab;have:=hA.dlt;omega);refine yz 8<|ysr<|yp 2 [] (.a (bi.cs 0 5) .z)<|yo (yT [rX d,.bool c.bold,.bool c.under,.bool c.turned,iX c.fore,iX c.back] bl fun bn bo ac=>?_);have bp:Ch (· =rv) w bn:=zt bj ac (fun i hi (h:i=r)=>by have:=J;omega);have bq:=bk.ch ac (fun b e (h:b=r)=>U b e h);have br:=bm.ch ac (fun(h:rv=r)=>by have:=J;have:=hA.lt;omega) (fun(h:D=r)=>by have:=J;have:=hA.dlt;omega);refine ye<|ys<|ys<|yD [] fun bs cf Z=>?_;have O:Ch (· =rv) w bs:=zt bp Z eZ
  have E:=bq.ch Z iZ;have P:=br.ch Z id id;have ad:=bo.ch Z id;refine yd (uL 0 3) [] .z<|yv [35] (rN (rY b5)) (fun a0=>?_) fun a0=>?_
  ·refine yd (uL 3 18) [] .z<|yDe (nS ?_);refine yct<|yx 2<|q9 (rS (rB (qt (rB (rS (yR2 [nX,.bool false] .z ?_))))));have hS:=qct (W:=W) (out:=l) (by rw[C];exact H) I M;rw[if_pos (.inl a0)]at hS;have hR:=qlb A (qgC (by omega) hf hS);rw[hL]at hR;simp only[Prod.mk.injEq]at hR;obtain⟨rfl,rfl,rfl⟩:=hR;exact⟨none,0,0,rfl,rfl,Own.nil _ _ _,(fun b e=>by cases e),P,O⟩
  refine yd (uL 3 4) [] .z<|yv [39] (rE k 0) (fun a1=>?_) fun a1=>?_
  ·refine yd (uL 7 14) [] .z<|yDe (nS ?_);refine yct<|yx 2<|q9 (rS (rB (qt (rB (rS (yR2 [nX,.bool false] .z ?_))))));have hS:=qct (W:=W) (out:=l) (by rw[C];exact H) I M;rw[if_pos (.inr (.inl a1))]at hS;have hR:=qlb A (qgC (by omega) hf hS);rw[hL]at hR;simp only[Prod.mk.injEq]at hR;obtain⟨rfl,rfl,rfl⟩:=hR;exact⟨none,0,0,rfl,rfl,Own.nil _ _ _,(fun b e=>by cases e),P,O⟩
  refine yd (uL 7 4) [] .z<|yv [43] (rL 0 ((n:Nat):Int)) (fun bt=>?_) fun bt=>?_
  ·obtain⟨ob,rfl⟩:=qgN E (by omega);refine yd (uL 11 10) [] (.q6 (((n:Nat):Int)-1) (.i (((n:Nat):Int)-1) (n) (.m (qek (i:=(((n:Nat):Int)-1)) (Own.rd E) (by omega) (by omega)) (.m (qel (i:=(((n:Nat):Int)-1)) (Own.rd E) (by omega) (by omega)) (.m (qcX (i:=(((n:Nat):Int)-1)) (Own.rd E) (by omega) (by omega)) (.m (qc3 (i:=(((n:Nat):Int)-1)) (Own.rd E) (by omega) (by omega)) (.m (qem (i:=(((n:Nat):Int)-1)) (Own.rd E) (by omega) (by omega)) (.m (qen (i:=(((n:Nat):Int)-1)) (Own.rd E) (by omega) (by omega)) (.e (.a (ad.cs 0 6) .z))))))))))<|yDe (nS ?_);refine yc (rY ((((gc l (((n:Nat):Int)-1)).rune:Int)==d)&&((((gc l (((n:Nat):Int)-1)).sty.bold==c.bold)&&(((gc l (((n:Nat):Int)-1)).sty.under==c.under)&&(((gc l (((n:Nat):Int)-1)).sty.turned==c.turned)&&((((gc l (((n:Nat):Int)-1)).sty.fore:Int)==c.fore)&&((((gc l (((n:Nat):Int)-1)).sty.back:Int)==c.back)&&true)))))&&true))) (fun ae=>?_) fun ae=>?_
   ·have a2:=(qiB (gc l (((n:Nat):Int)-1)) (Cel.mk d c)).symm.trans ae;refine yx 2<|q9 (rS (rB (qt (rB (rS (yR2 [nX,.bool false] .z ?_))))));have hS:=qct (W:=W) (out:=l) (by rw[C];exact H) I M;rw[if_pos (.inr (.inr (by rw[qpo C (by omega),eq_of_beq a2])))]at hS;have hR:=qlb A (qgC (by omega) hf hS);rw[hL]at hR;simp only[Prod.mk.injEq]at hR;obtain⟨rfl,rfl,rfl⟩:=hR;exact⟨none,0,0,rfl,rfl,Own.nil _ _ _,(fun b e=>by cases e),P,O⟩
   have a2:=(qiB (gc l (((n:Nat):Int)-1)) (Cel.mk d c)).symm.trans ae;refine yk<|yx 2<|qa ?_;have hS:=qct (W:=W) (out:=l) (by rw[C];exact H) I M;rw[if_neg (by rintro (h|h|h);exact absurd (a0.symm.trans h) (by decide);exact a1 h;exact absurd h (by rw[qpo C (by omega)];intro e;rw[zi e]at a2;simp at a2))]at hS;refine qT [0,1,6,8,54,55] (f':=[(0,pX rv),(1,iX W),(6,.slice (some ⟨ob,0,none⟩) n cap),(8,pX r),(54,iX k),(55,iX 0)])<|qx (σ:=Nat×Option Nat×Nat×Nat) (fun⟨j,v,g,y⟩=>[(0,pX rv),(1,iX W),(6,.slice (v.map at0) g y),(8,pX r),(54,iX k),(55,iX ((j:Nat):Int))]) (fun⟨j,v,g,y⟩ u=>(j:Int)<=k/\Own u qdf 6 v g y (qal (l++List.replicate j (Cel.mk d c)))/\g=n+j/\(∀b,v=some b->w.heap.size<=b)/\(∀b,v=some b-> ¬b=r)/\Blk u r [rX d,.bool c.bold,.bool c.under,.bool c.turned,iX c.fore,iX c.back] 159/\RdrAt u rv D V/\Ch (· =rv) w u) (fun⟨j,v,g,y⟩=>(k:Int).toNat-j) (0,(some ob),n,cap) rfl ?_ ?_
   ·exact⟨by omega,by rw[List.replicate_zero,List.append_nil];exact E,rfl,G,U,ad,P,O⟩
   intro q cg bu ci bv;obtain⟨j,v,g,y⟩:=q;obtain⟨bw,F,bx,B,Q,R,S,K⟩:=bu;have bz:g<=y:=F.2.1;refine yx 1<|ys<|yc (rL ((j:Nat):Int) k) (fun af=>?_) fun af=>?_
   ·refine yk<|ys<|qa<|q7<|yp 2 [] (.a (R.cs 0 6) .z)<|yo (yB [rX d,.bool c.bold,.bool c.under,.bool c.turned,iX c.fore,iX c.back] 159 1 fun bA ax bB cj bC a3=>?_);have ck:=zv (b:=ax) F;have ay:Ch (· =rv) w bA:=zt K a3 eZ;have cl:=zn bB K;have bD:=F.ch a3 iZ;have bE:=S.ch a3 id id;have az:=R.ch a3 id;refine yo (qaD 159 6 32 v g y (qal (l++List.replicate j (Cel.mk d c))) (some ⟨ax,0,none⟩) 1 1 [rX d,.bool c.bold,.bool c.under,.bool c.turned,iX c.fore,iX c.back] (some 60) (g+1) rfl (qal ((l++List.replicate j (Cel.mk d c))++[(Cel.mk d c)])) (qki (l++List.replicate j (Cel.mk d c)) (Cel.mk d c)) (by kernel_rfl) bD (Rd.all bC) rfl rfl (fun h=>by cases h) (by constructor<;>first|omega|(simp only[maxLen];omega)) ?_);intro bF aA bG bH aB cm a4;have bI:∀b,aA=some b->w.heap.size<=b:=fun b e=>by
     rcases aB with h|⟨g',h,h'⟩
     ·exact B b (h▸e)
     rw[h]at e;have:=zi e;have:=zzs ay;omega
    have bJ:=App.of aB a4;have bK:=bJ.apart az.lt Q;have bL:Ch (· =rv) w bF:=zt ay a4 (fun i hi h=>by have:=B _ h;omega);have bM:=bE.ch a4 (fun h=>by have:=B _ h;have:=hA.lt;omega) (fun h=>by have:=B _ h;have:=hA.dlt;omega);have bN:=az.ch a4 (fun h=>Q _ h rfl);refine yq 5<|yE (nB (nS ?_));refine q7<|yp 2 [] (.q6 (((j:Nat):Int)+1) .z)<|yE (fun a ha=>bv (j+1,aA,(g+1),bG) _ ⟨by omega,by rw[List.replicate_succ',<-List.append_assoc];exact bH,by omega,bI,bK,bN,bM,bL⟩ (by show(k:Int).toNat-(j+1)<(k:Int).toNat-j;omega) a (ha.kp [0,1,6,8,54,55]))
   have ag:j=(k:Int).toNat:=by omega
   subst ag;obtain⟨f',bO,ah⟩:=qlW (by omega) hf hS;rw[ah]at A;refine ql (eS (qd (qb (nB (fun a ha=>ak (l++List.replicate (k:Int).toNat (Cel.mk d c),V,v,g,y) _ ⟨⟨f',by rw[List.length_append,List.length_replicate];omega,A⟩,by rw[List.length_append,List.length_replicate];omega,by omega,F,B,S,K⟩ (by show W.toNat-(l++List.replicate (k:Int).toNat (Cel.mk d c)).length<W.toNat-l.length;rw[List.length_append,List.length_replicate];omega) a (ha.kp [0,1,6]))))))
  refine yd (uL 11 10) [] .z<|yDe (nS ?_);refine ycf<|yk<|yx 2<|qa ?_;have hS:=qct (W:=W) (out:=l) (by rw[C];exact H) I M;rw[if_neg (by rintro (h|h|h);exact absurd (a0.symm.trans h) (by decide);exact a1 h;exact absurd h (by rw[List.eq_nil_of_length_eq_zero (show l.length=0 by omega)];intro e;cases e))]at hS;refine qT [0,1,6,8,54,55] (f':=[(0,pX rv),(1,iX W),(6,.slice (o.map at0) n cap),(8,pX r),(54,iX k),(55,iX 0)])<|qx (σ:=Nat×Option Nat×Nat×Nat) (fun⟨j,v,g,y⟩=>[(0,pX rv),(1,iX W),(6,.slice (v.map at0) g y),(8,pX r),(54,iX k),(55,iX ((j:Nat):Int))]) (fun⟨j,v,g,y⟩ u=>(j:Int)<=k/\Own u qdf 6 v g y (qal (l++List.replicate j (Cel.mk d c)))/\g=n+j/\(∀b,v=some b->w.heap.size<=b)/\(∀b,v=some b-> ¬b=r)/\Blk u r [rX d,.bool c.bold,.bool c.under,.bool c.turned,iX c.fore,iX c.back] 159/\RdrAt u rv D V/\Ch (· =rv) w u) (fun⟨j,v,g,y⟩=>(k:Int).toNat-j) (0,o,n,cap) rfl ?_ ?_
  ·exact⟨by omega,by rw[List.replicate_zero,List.append_nil];exact E,rfl,G,U,ad,P,O⟩
  intro q cn bP co bQ;obtain⟨j,v,g,y⟩:=q;obtain⟨bw,F,bx,B,Q,R,S,K⟩:=bP;have bz:g<=y:=F.2.1;refine yx 1<|ys<|yc (rL ((j:Nat):Int) k) (fun af=>?_) fun af=>?_
  ·refine yk<|ys<|qa<|q7<|yp 2 [] (.a (R.cs 0 6) .z)<|yo (yB [rX d,.bool c.bold,.bool c.under,.bool c.turned,iX c.fore,iX c.back] 159 1 fun bR aC bS cp bT a5=>?_);have cq:=zv (b:=aC) F;have aD:Ch (· =rv) w bR:=zt K a5 eZ;have cr:=zn bS K;have bU:=F.ch a5 iZ;have bV:=S.ch a5 id id;have aE:=R.ch a5 id;refine yo (qaD 159 6 32 v g y (qal (l++List.replicate j (Cel.mk d c))) (some ⟨aC,0,none⟩) 1 1 [rX d,.bool c.bold,.bool c.under,.bool c.turned,iX c.fore,iX c.back] (some 60) (g+1) rfl (qal ((l++List.replicate j (Cel.mk d c))++[(Cel.mk d c)])) (qki (l++List.replicate j (Cel.mk d c)) (Cel.mk d c)) (by kernel_rfl) bU (Rd.all bT) rfl rfl (fun h=>by cases h) (by constructor<;>first|omega|(simp only[maxLen];omega)) ?_);intro bW aF bX bY aG ct a6;have bZ:∀b,aF=some b->w.heap.size<=b:=fun b e=>by
    rcases aG with h|⟨g',h,h'⟩
    ·exact B b (h▸e)
    rw[h]at e;have:=zi e;have:=zzs aD;omega
   have c0:=App.of aG a6;have c1:=c0.apart aE.lt Q;have c2:Ch (· =rv) w bW:=zt aD a6 (fun i hi h=>by have:=B _ h;omega);have c3:=bV.ch a6 (fun h=>by have:=B _ h;have:=hA.lt;omega) (fun h=>by have:=B _ h;have:=hA.dlt;omega);have c4:=aE.ch a6 (fun h=>Q _ h rfl);refine yq 5<|yE (nB (nS ?_));refine q7<|yp 2 [] (.q6 (((j:Nat):Int)+1) .z)<|yE (fun a ha=>bQ (j+1,aF,(g+1),bX) _ ⟨by omega,by rw[List.replicate_succ',<-List.append_assoc];exact bY,by omega,bZ,c1,c4,c3,c2⟩ (by show(k:Int).toNat-(j+1)<(k:Int).toNat-j;omega) a (ha.kp [0,1,6,8,54,55]))
  have ag:j=(k:Int).toNat:=by omega
  subst ag;obtain⟨f',bO,ah⟩:=qlW (by omega) hf hS;rw[ah]at A;refine ql (eS (qd (qb (nB (fun a ha=>ak (l++List.replicate (k:Int).toNat (Cel.mk d c),V,v,g,y) _ ⟨⟨f',by rw[List.length_append,List.length_replicate];omega,A⟩,by rw[List.length_append,List.length_replicate];omega,by omega,F,B,S,K⟩ (by show W.toNat-(l++List.replicate (k:Int).toNat (Cel.mk d c)).length<W.toNat-l.length;rw[List.length_append,List.length_replicate];omega) a (ha.kp [0,1,6]))))))
 rcases o with _|ob
 ·obtain⟨rfl,rfl⟩:=hO.2.2.2.1 rfl;obtain rfl:=List.eq_nil_of_length_eq_zero C;refine ql (eS (qd (qb (nS ?_))));refine ys<|ysr<|yq 1<|yo (yQ (qpp _) fun c5 ai=>?_);have aH:Ch (· =rv) w c5:=zt T ai eZ;have aI:=a7.ch ai id id;have c6:=hO.ch ai iZ;refine yz 3<|yc (rN (rY (qb1 []))) (fun L=>?_) fun L=>?_
  ·refine yx 2<|q9 (rS (yR2 [nX,.bool false] .z ?_));have hR:=qiP A (qcO (by first|omega|(simp;omega)));rw[hL]at hR;rw[qmc L]at hR;simp only[Prod.mk.injEq]at hR;obtain⟨rfl,rfl,rfl⟩:=hR;exact⟨none,0,0,rfl,rfl,Own.nil _ _ _,(fun b e=>by cases e),aI,aH⟩
  refine yk<|yx 3<|q9 (yR2 [nX,.bool true] .z ?_);have hR:=qiP A (qcO (by first|omega|(simp;omega)));rw[hL]at hR;rw[if_pos L]at hR;simp only[Prod.mk.injEq]at hR;obtain⟨rfl,rfl,rfl⟩:=hR;exact⟨none,_,_,rfl,rfl,c6,G,aI,aH⟩
 refine ql (eS (qd (qb (nS ?_))));refine ys<|ysr<|yq 1<|yo (yQ (qpm ob n cap l _ (qh T hT (fun(h:qdR=rv)=>by have:=g_lt;omega) (fun(h:qbZ=rv)=>by have:=g_lt;omega)) (Own.rd hO) hO.lt C (by omega)) fun c7 aj=>?_);have aJ:Ch (· =rv) w c7:=zt T aj eZ;have aK:=a7.ch aj id id;have c8:=hO.ch aj iZ;refine yz 3<|yc (rN (rY (qb1 l))) (fun L=>?_) fun L=>?_
 ·refine yx 2<|q9 (rS (yR2 [nX,.bool false] .z ?_));have hR:=qiP A (qcO (by first|omega|(simp;omega)));rw[hL]at hR;rw[qmc L]at hR;simp only[Prod.mk.injEq]at hR;obtain⟨rfl,rfl,rfl⟩:=hR;exact⟨none,0,0,rfl,rfl,Own.nil _ _ _,(fun b e=>by cases e),aK,aJ⟩
 refine yk<|yx 3<|q9 (yR2 [.slice (some ⟨ob,0,none⟩) n cap,.bool true] .z ?_);have hR:=qiP A (qcO (by first|omega|(simp;omega)));rw[hL]at hR;rw[if_pos L]at hR;simp only[Prod.mk.injEq]at hR;obtain⟨rfl,rfl,rfl⟩:=hR;exact⟨(some ob),_,_,rfl,C,c8,G,aK,aJ⟩
theorem qiQ {w:World}{b:Nat}{x:ByteArray}(h:Rd w (some ⟨b,0,none⟩) (qfC x)){i:Nat}(hi:i<x.size):w.cell? ⟨b,0+((i:Nat):Int).toNat*1,none⟩=some (uX (bt x (i:Int))):=by
 rw[Int.toNat_natCast,Nat.mul_one];exact qci h i _ (bytV_get x hi)
theorem qkk {n:Nat}{p:Nat->Bool}(h:∀i,i<n->p i=true):(List.range n).all p=true:=List.all_eq_true.2 fun i hi=>h i (List.mem_range.1 hi)
theorem qgO {n k:Nat}{p:Nat->Bool}(hk:k<n)(h:p k=false):(List.range n).all p=false:=Bool.eq_false_iff.2 fun e=>by
  rw[List.all_eq_true.1 e k (List.mem_range.2 hk)]at h;cases h
theorem qmd {lo:Nat}{f:Int->Bool}{m:ByteArray}(h1:¬(m.size:Int)<lo)(h2:¬2<(m.size:Int))(h:∀i:Nat,i<m.size->f (bt m (i:Int))=true):true=qbe lo f m:=by
 unfold qbe;rw[qkk h,decide_eq_true (show lo<=m.size by omega),decide_eq_true (show m.size<=2 by omega)];rfl
theorem qpq {lo:Nat}{f:Int->Bool}{m:ByteArray}(h1:(m.size:Int)<lo):false=qbe lo f m:=by
 unfold qbe;rw[decide_eq_false (show¬lo<=m.size by omega)];rfl
theorem qkl {lo:Nat}{f:Int->Bool}{m:ByteArray}(h2:2<(m.size:Int)):false=qbe lo f m:=by
 unfold qbe;rw[decide_eq_false (show¬m.size<=2 by omega),Bool.and_false];rfl
theorem qkm {lo:Nat}{f:Int->Bool}{m:ByteArray}{k:Nat}(hk:k<m.size)(h:f (bt m (k:Int))=false):false=qbe lo f m:=by
 unfold qbe;rw[qgO hk h,Bool.and_false]
theorem textB_t {x:ByteArray}(h:∀i:Nat,i<x.size->decide (32<=bt x (i:Int))=true):decide ((x.size:Int)<=40)=qdt x:=by
 unfold qdt;rw[qkk h,Bool.true_and];exact decide_eq_decide.2 (by omega)
theorem textB_at {x:ByteArray}{k:Nat}(hk:k<x.size)(h:bt x (k:Int)<32):false=qdt x:=by
 unfold qdt;rw[qgO hk (decide_eq_false (by omega))];rfl
theorem numsB_t {l:List Int}(h:∀i:Nat,i<l.length->0<=l.getD i 0/\l.getD i 0<=9999):decide ((l.length:Int)<=8)=qgH l:=by
 unfold qgH;have:l.all (fun n=>decide (0<=n)&&decide (n<=9999))=true:=List.all_eq_true.2 fun x hx=>by
  obtain⟨i,hi,rfl⟩:=List.getElem_of_mem hx;have:=h i hi;simp only[List.getD,List.getElem?_eq_getElem hi,Option.getD_some]at this;simp[this.1,this.2]
 rw[this,Bool.true_and];exact decide_eq_decide.2 (by omega)
theorem qme {l:List Int}{k:Nat}(hk:k<l.length)(h:¬(0<=l.getD k 0/\l.getD k 0<=9999)):false=qgH l:=by
 unfold qgH;have:l.all (fun n=>decide (0<=n)&&decide (n<=9999))=false:=Bool.eq_false_iff.2 fun e=>by
  have:=List.all_eq_true.1 e _ (qd2 hk);simp only[Bool.and_eq_true,decide_eq_true_eq]at this;exact h this
 rw[this];rfl
theorem qgP {w:World}{b o:Nat}{l:List Int}(h:Rd w (some ⟨b,o,none⟩) (l.map (Value.int .i64))){k:Nat}(hk:k<l.length):w.cell? ⟨b,o+((k:Nat):Int).toNat*1,none⟩=some (iX (l.getD k 0)):=by
 rw[Int.toNat_natCast,Nat.mul_one];refine qci h k _ ?_;rw[List.getElem?_map,List.getElem?_eq_getElem hk];simp[List.getD,List.getElem?_eq_getElem hk]
theorem qpr (c:Int)(w:World):Calls Tryz.prog 139 [uX c].toArray w fun e w'=>e= .returned (.bool (qk5 c))/\Ch (fun _=>False) w w':=by
 refine yA Tryz.func139 rfl<|yx 1<|ysr<|yq 3<|yw [5] (rM 32 c) (fun a=>?_) fun a=>?_
 ·refine yz 7<|q9 (yR1 (.bool (decide (c<48))) ?_);refine⟨?_,Up.ch (zm w)⟩;refine zc ?_;rw[Bool.eq_iff_iff];simp only[qk5,Bool.and_eq_true,decide_eq_true_eq,Bool.false_eq_true,true_iff,false_iff,iff_true,iff_false,not_and];omega
 refine yz 7<|q9 (yR1 (.bool false) ?_);refine⟨?_,Up.ch (zm w)⟩;refine zc ?_;rw[Bool.eq_iff_iff];simp only[qk5,Bool.and_eq_true,decide_eq_true_eq,Bool.false_eq_true,true_iff,false_iff,iff_true,iff_false,not_and];omega
theorem qps (c:Int)(w:World):Calls Tryz.prog 140 [uX c].toArray w fun e w'=>e= .returned (.bool (qbQ c))/\Ch (fun _=>False) w w':=by
 refine yA Tryz.func140 rfl<|yx 1<|ysr<|yq 1<|yo (yQ (qpr (c) _) fun g f=>?_);have a:=zu (zm w) f iZ;refine yq 3<|yw [5] (rY (qk5 (c))) (fun b=>?_) fun b=>?_
 ·have h:=b;refine yz 11<|q9 (yR1 (.bool true) ?_);refine⟨zc ?_,Up.ch a⟩;unfold qbQ
  first|(simp[*];done)|(simp[*];omega)
 have i:=b;refine yq 6<|yw [8] (rM 60 c) (fun d=>?_) fun d=>?_
 ·have j:=d;refine yz 11<|q9 (yR1 (.bool (decide (c<=63))) ?_);refine⟨zc ?_,Up.ch a⟩;unfold qbQ
  first|(simp[*];done)|(simp[*];omega)
 have k:=d;refine yz 11<|q9 (yR1 (.bool false) ?_);refine⟨zc ?_,Up.ch a⟩;unfold qbQ
 first|(simp[*];done)|(simp[*];omega)
theorem qnk (p:PS)(pa:Option Addr)(pn pc:Nat)(w:World):Calls Tryz.prog 138 [.agg #[iX p.state,uX p.utf.b0,uX p.utf.b1,uX p.utf.b2,iX p.utf.n,.string p.marks,.slice pa pn pc,.string p.text,iX p.within],iX 1,iX 2,.func (.func 139) #[] #[]].toArray w fun e w'=>e= .returned (.bool (qbe 1 qk5 p.marks))/\Ch (fun _=>False) w w':=by
 refine yA Tryz.func138 rfl<|ysr<|yo (yN [iX p.state,uX p.utf.b0,uX p.utf.b1,uX p.utf.b2,iX p.utf.n,.string p.marks,.slice pa pn pc,.string p.text,iX p.within] 94 fun N O B P d C=>?_);have Q:=zn B (zm w);have b:=zu (zm w) C iZ;refine yz 2<|ys<|ysr<|yp 6 [] (.l (d.c 5) .z)<|yw [16] (rL ((p.marks).size:Int) 1) (fun f=>?_) fun f=>?_
 ·refine yz 12<|yct<|yx 1<|q9 (rS (yR1 (.bool false) ?_));exact⟨congrArg Ending.returned (congrArg Value.bool (qpq f)),Up.ch b⟩
 refine yp 12 [] (.l (d.c 5) .z)<|ye<|yc (rL 2 ((p.marks).size:Int)) (fun g=>?_) fun g=>?_
 ·refine yx 1<|q9 (rS (yR1 (.bool false) ?_));exact⟨congrArg Ending.returned (congrArg Value.bool (qkl g)),Up.ch b⟩
 refine yk<|ys<|ysr<|yp 2 [] (.l (d.c 5) .z)<|yo (qgl p.marks (some 25) (by kernel_rfl) ?_);intro D j s E R F G;have S:=zn E b;have H:=zu b G iZ;refine yz 5<|qa<|qT [3,25,26,27] (f':=[(3,.func (.func 139) #[] #[]),(25,.slice (some ⟨j,0,none⟩) (p.marks).size s),(26,iX (((p.marks).size:Nat):Int)),(27,iX 0)])<|qx (σ:=Nat) (fun k=>[(3,.func (.func 139) #[] #[]),(25,.slice (some ⟨j,0,none⟩) (p.marks).size s),(26,iX (((p.marks).size:Nat):Int)),(27,iX ((k:Nat):Int))]) (fun k u=>k<=(p.marks).size/\(∀i:Nat,i<k->qk5 (bt p.marks (i:Int))=true)/\Rd u (some ⟨j,0,none⟩) (qfC p.marks)/\Ch (fun _=>False) D u) (fun k=>(p.marks).size-k) 0 rfl ?_ ?_
 ·exact⟨Nat.zero_le _,fun i hi=>absurd hi (Nat.not_lt_zero i),F,Ch.refl _ _⟩
 intro k T I U J;obtain⟨hk,t,x,y⟩:=I;have A:=zu H y iZ;refine yx 1<|ys<|yc (rL ((k:Nat):Int) (((p.marks).size:Nat):Int)) (fun m=>?_) fun m=>?_
 ·have V:=m;refine yk<|ys<|qa<|ysr<|yp 3 [] (.i ((k:Nat):Int) ((p.marks).size) (.l (v:=uX (bt p.marks ((k:Nat):Int))) (qiQ x (i:=k) (by omega)) .z))<|ye<|ysr<|yq 2<|yo (yQT (qpr ((bt p.marks ((k:Nat):Int))) _) fun W o=>?_);have K:=zu A o iZ;have L:=zt y o eZ;have M:=Ch.rd o x id;refine yz 4<|yc (rN (rY (qk5 ((bt p.marks ((k:Nat):Int)))))) (fun q=>?_) fun q=>?_
  ·have r:qk5 (bt p.marks ((k:Nat):Int))=false:=q;refine yx 1<|q9 (rB (rS (qt (rB (rS (yR1 (.bool false) ?_))))));exact⟨congrArg Ending.returned (congrArg Value.bool (qkm (by omega) r)),Up.ch K⟩
  have r:qk5 (bt p.marks ((k:Nat):Int))=true:=q;refine qk (nB (nS ?_));refine q7<|yp 2 [] (.q6 (((k:Nat):Int)+1) .z)<|yE (fun a ha=>J (k+1) _ ⟨by omega,fun i hi=>(Nat.lt_or_ge i k).elim (t i) (fun h=>by rw[show i=k by omega];exact r),M,L⟩ (by show(p.marks).size-(k+1)<(p.marks).size-k;omega) a (ha.kp [3,25,26,27]))
 have X:=m;refine ql (eS (qd (qb (nS ?_))));refine yx 1<|q9 (yR1 (.bool true) ?_);exact⟨congrArg Ending.returned (congrArg Value.bool (qmd f g (fun i hi=>t i (by omega)))),Up.ch A⟩
theorem qgQ (p:PS)(pa:Option Addr)(pn pc:Nat)(w:World):Calls Tryz.prog 138 [.agg #[iX p.state,uX p.utf.b0,uX p.utf.b1,uX p.utf.b2,iX p.utf.n,.string p.marks,.slice pa pn pc,.string p.text,iX p.within],iX 0,iX 2,.func (.func 140) #[] #[]].toArray w fun e w'=>e= .returned (.bool (qbe 0 qbQ p.marks))/\Ch (fun _=>False) w w':=by
 refine yA Tryz.func138 rfl<|ysr<|yo (yN [iX p.state,uX p.utf.b0,uX p.utf.b1,uX p.utf.b2,iX p.utf.n,.string p.marks,.slice pa pn pc,.string p.text,iX p.within] 94 fun N O B P b C=>?_);have Q:=zn B (zm w);have d:=zu (zm w) C iZ;refine yz 2<|ys<|ysr<|yp 6 [] (.l (b.c 5) .z)<|yw [16] (rL ((p.marks).size:Int) 0) (fun r=>?_) fun r=>?_
 ·exfalso;omega
 refine yp 12 [] (.l (b.c 5) .z)<|ye<|yc (rL 2 ((p.marks).size:Int)) (fun f=>?_) fun f=>?_
 ·refine yx 1<|q9 (rS (yR1 (.bool false) ?_));exact⟨congrArg Ending.returned (congrArg Value.bool (qkl f)),Up.ch d⟩
 refine yk<|ys<|ysr<|yp 2 [] (.l (b.c 5) .z)<|yo (qgl p.marks (some 25) (by kernel_rfl) ?_);intro D g s E R F G;have S:=zn E d;have H:=zu d G iZ;refine yz 5<|qa<|qT [3,25,26,27] (f':=[(3,.func (.func 140) #[] #[]),(25,.slice (some ⟨g,0,none⟩) (p.marks).size s),(26,iX (((p.marks).size:Nat):Int)),(27,iX 0)])<|qx (σ:=Nat) (fun k=>[(3,.func (.func 140) #[] #[]),(25,.slice (some ⟨g,0,none⟩) (p.marks).size s),(26,iX (((p.marks).size:Nat):Int)),(27,iX ((k:Nat):Int))]) (fun k u=>k<=(p.marks).size/\(∀i:Nat,i<k->qbQ (bt p.marks (i:Int))=true)/\Rd u (some ⟨g,0,none⟩) (qfC p.marks)/\Ch (fun _=>False) D u) (fun k=>(p.marks).size-k) 0 rfl ?_ ?_
 ·exact⟨Nat.zero_le _,fun i hi=>absurd hi (Nat.not_lt_zero i),F,Ch.refl _ _⟩
 intro k T I U J;obtain⟨hk,t,x,y⟩:=I;have A:=zu H y iZ;refine yx 1<|ys<|yc (rL ((k:Nat):Int) (((p.marks).size:Nat):Int)) (fun j=>?_) fun j=>?_
 ·have V:=j;refine yk<|ys<|qa<|ysr<|yp 3 [] (.i ((k:Nat):Int) ((p.marks).size) (.l (v:=uX (bt p.marks ((k:Nat):Int))) (qiQ x (i:=k) (by omega)) .z))<|ye<|ysr<|yq 2<|yo (yQT (qps ((bt p.marks ((k:Nat):Int))) _) fun W m=>?_);have K:=zu A m iZ;have L:=zt y m eZ;have M:=Ch.rd m x id;refine yz 4<|yc (rN (rY (qbQ ((bt p.marks ((k:Nat):Int)))))) (fun o=>?_) fun o=>?_
  ·have q:qbQ (bt p.marks ((k:Nat):Int))=false:=o;refine yx 1<|q9 (rB (rS (qt (rB (rS (yR1 (.bool false) ?_))))));exact⟨congrArg Ending.returned (congrArg Value.bool (qkm (by omega) q)),Up.ch K⟩
  have q:qbQ (bt p.marks ((k:Nat):Int))=true:=o;refine qk (nB (nS ?_));refine q7<|yp 2 [] (.q6 (((k:Nat):Int)+1) .z)<|yE (fun a ha=>J (k+1) _ ⟨by omega,fun i hi=>(Nat.lt_or_ge i k).elim (t i) (fun h=>by rw[show i=k by omega];exact q),M,L⟩ (by show(p.marks).size-(k+1)<(p.marks).size-k;omega) a (ha.kp [3,25,26,27]))
 have X:=j;refine ql (eS (qd (qb (nS ?_))));refine yx 1<|q9 (yR1 (.bool true) ?_);exact⟨congrArg Ending.returned (congrArg Value.bool (qmd r f (fun i hi=>t i (by omega)))),Up.ch A⟩
theorem qmf (p:PS)(pa:Option Addr)(pn pc:Nat)(w:World)(htz:p.text.size<=1000):Calls Tryz.prog 142 [.agg #[iX p.state,uX p.utf.b0,uX p.utf.b1,uX p.utf.b2,iX p.utf.n,.string p.marks,.slice pa pn pc,.string p.text,iX p.within]].toArray w fun e w'=>e= .returned (.bool (qdt p.text))/\Ch (fun _=>False) w w':=by
 refine yA Tryz.func142 rfl<|ysr<|yo (yN [iX p.state,uX p.utf.b0,uX p.utf.b1,uX p.utf.b2,iX p.utf.n,.string p.marks,.slice pa pn pc,.string p.text,iX p.within] 94 fun L j y M m A=>?_);have N:=zn y (zm w);have o:=zu (zm w) A iZ;refine yz 2<|ys<|ysr<|yp 2 [] (.l (m.c 7) .z)<|yo (qgl p.text (some 7) (by kernel_rfl) ?_);intro B b q C O D r;have P:=zn C o;have E:=zu o r iZ;have F:=m.ch r id;refine yz 5<|qa<|qT [1,7,8,9] (f':=[(1,pX j),(7,.slice (some ⟨b,0,none⟩) (p.text).size q),(8,iX (((p.text).size:Nat):Int)),(9,iX 0)])<|qx (σ:=Nat) (fun k=>[(1,pX j),(7,.slice (some ⟨b,0,none⟩) (p.text).size q),(8,iX (((p.text).size:Nat):Int)),(9,iX ((k:Nat):Int))]) (fun k u=>k<=(p.text).size/\(∀i:Nat,i<k->(fun c=>decide (32<=c)) (bt p.text (i:Int))=true)/\Rd u (some ⟨b,0,none⟩) (qfC p.text)/\Ch (fun _=>False) B u) (fun k=>(p.text).size-k) 0 rfl ?_ ?_
 ·exact⟨Nat.zero_le _,fun i hi=>absurd hi (Nat.not_lt_zero i),D,Ch.refl _ _⟩
 intro k Q G R H;obtain⟨hk,s,t,d⟩:=G;have x:=zu E d iZ;have I:=F.ch d id;refine yx 1<|ys<|yc (rL ((k:Nat):Int) (((p.text).size:Nat):Int)) (fun f=>?_) fun f=>?_
 ·have S:=f;refine yk<|ys<|qa<|ysr<|yp 3 [] (.i ((k:Nat):Int) ((p.text).size) (.l (v:=uX (bt p.text ((k:Nat):Int))) (qiQ t (i:=k) (by omega)) .z))<|ye<|yx 2<|yc (rL (bt p.text ((k:Nat):Int)) 32) (fun g=>?_) fun g=>?_
  ·have J:=g;refine yx 1<|q9 (rB (rS (qt (rB (rS (yR1 (.bool false) ?_))))));exact⟨congrArg Ending.returned (congrArg Value.bool (textB_at (by omega) J)),Up.ch x⟩
  have K:decide (32<=bt p.text ((k:Nat):Int))=true:=decide_eq_true (by have:=g;omega);refine qk (nB (nS ?_));refine q7<|yp 2 [] (.q6 (((k:Nat):Int)+1) .z)<|yE (fun a ha=>H (k+1) _ ⟨by omega,fun i hi=>(Nat.lt_or_ge i k).elim (s i) (fun h=>by rw[show i=k by omega];exact K),t,d⟩ (by show(p.text).size-(k+1)<(p.text).size-k;omega) a (ha.kp [1,7,8,9]))
 have T:=f;refine ql (eS (qd (qb (nS ?_))));refine ysr<|yp 5 [] (.l (I.c 7) .z)<|ye<|q9 (yR1 (.bool (decide (((p.text).size:Int)<=40))) ?_);exact⟨congrArg Ending.returned (congrArg Value.bool (textB_t (fun i hi=>s i (by omega)))),Up.ch x⟩
theorem qmg (p:PS)(pa:Option Addr)(pn pc:Nat)(w:World)(hr:Rd w pa (p.params.map (Value.int .i64)))(hl:p.params.length=pn)(hz:pn=0\/ ∃b o,pa=some ⟨b,o,none⟩)(hn:pn<=8):Calls Tryz.prog 141 [.agg #[iX p.state,uX p.utf.b0,uX p.utf.b1,uX p.utf.b2,iX p.utf.n,.string p.marks,.slice pa pn pc,.string p.text,iX p.within]].toArray w fun e w'=>e= .returned (.bool (qgH p.params))/\Ch (fun _=>False) w w':=by
 refine yA Tryz.func141 rfl<|ysr<|yo (yN [iX p.state,uX p.utf.b0,uX p.utf.b1,uX p.utf.b2,iX p.utf.n,.string p.marks,.slice pa pn pc,.string p.text,iX p.within] 94 fun v q x F r s=>?_);have G:=zn x (zm w);have y:=zu (zm w) s iZ;have A:=Rd.ch hr s iZ;refine yz 2<|ys<|ysr<|yp 4 [] (.l (r.c 6) .z)<|ye<|qa<|qT [1,6,7,8] (f':=[(1,pX q),(6,.slice pa pn pc),(7,iX ((pn:Nat):Int)),(8,iX 0)])<|qx (σ:=Nat) (fun k=>[(1,pX q),(6,.slice pa pn pc),(7,iX ((pn:Nat):Int)),(8,iX ((k:Nat):Int))]) (fun k u=>k<=pn/\(∀i:Nat,i<k->0<=p.params.getD i 0/\p.params.getD i 0<=9999)/\Ch (fun _=>False) v u) (fun k=>pn-k) 0 rfl ?_ ?_
 ·exact⟨Nat.zero_le _,fun i hi=>absurd hi (Nat.not_lt_zero i),Ch.refl _ _⟩
 intro k H B I C;obtain⟨hk,t,d⟩:=B;have f:=zu y d iZ;have D:=Rd.ch A d iZ;have E:=r.ch d id;refine yx 1<|ys<|yc (rL ((k:Nat):Int) ((pn:Nat):Int)) (fun g=>?_) fun g=>?_
 ·obtain⟨pb,po,rfl⟩:=hz.resolve_left (by omega);have J:=g;refine yk<|ys<|qa<|ysr<|yp 3 [] (.i ((k:Nat):Int) (pn) (.l (o:=(po+(((k:Nat):Int)).toNat*1)) (qgP D (by omega)) .z))<|ye<|ysr<|yq 3<|yw [14] (rL (p.params.getD k 0) 0) (fun j=>?_) fun j=>?_
  ·have K:=j;refine yz 6<|yct<|yx 1<|q9 (rB (rS (qt (rB (rS (yR1 (.bool false) ?_))))));exact⟨congrArg Ending.returned (congrArg Value.bool (qme (l:=p.params) (k:=k) (by omega) (by omega))),Up.ch f⟩
  have L:=j;refine yz 6<|yc (rL 9999 (p.params.getD k 0)) (fun m=>?_) fun m=>?_
  ·have M:=m;refine yx 1<|q9 (rB (rS (qt (rB (rS (yR1 (.bool false) ?_))))));exact⟨congrArg Ending.returned (congrArg Value.bool (qme (l:=p.params) (k:=k) (by omega) (by omega))),Up.ch f⟩
  have N:=m;refine qk (nB (nS ?_));refine q7<|yp 2 [] (.q6 (((k:Nat):Int)+1) .z)<|yE (fun a ha=>C (k+1) _ ⟨by omega,fun i hi=>(Nat.lt_or_ge i k).elim (t i) (fun h=>by rw[show i=k by omega];omega),d⟩ (by show pn-(k+1)<pn-k;omega) a (ha.kp [1,6,7,8]))
 have O:=g;refine ql (eS (qd (qb (nS ?_))));refine ysr<|yp 5 [] (.l (E.c 6) .z)<|ye<|q9 (yR1 (.bool (decide (((pn:Nat):Int)<=8))) ?_);exact⟨congrArg Ending.returned (congrArg Value.bool (by rw[<-numsB_t (fun i hi=>t i (by omega)),hl])),Up.ch f⟩
theorem qpt (x0:Int)(x1:Int)(x2:Int)(w:World)(hU:qcy w)(hB:∀x∈([x0,x1,x2]:List Int),0<=x/\x<=255):Calls Tryz.prog 137 [.agg #[uX x0,uX x1,uX x2,iX 0]].toArray w fun e w'=>e= .returned (.bool (utB ⟨x0,x1,x2,0⟩))/\Ch (fun _=>False) w w':=by
 refine yA Tryz.func137 rfl<|ysr<|yo (yN [uX x0,uX x1,uX x2,iX 0] 92 fun u v m y a n=>?_);have A:=zn m (zm w);have b:=zu (zm w) n iZ;refine yz 2<|ys<|ysr<|yp 8 [] (.l (a.c 3) (.l (a.c 3) .z))<|ye<|ycf<|yk<|ys<|ysr<|yp 6 [3] (.l (a.c 3) (.j 0 (3) (.p (q:=0<3) (by omega) .z)))<|ye<|qa<|yU 4 (yU1 ?_);refine yx 1<|ys<|yct<|yk<|ys<|qa<|ysr<|yp 3 [] (.i 0 (3) (.l (a.c 0) .z))<|ye<|yx 2<|yc (rI x0 0) (fun d=>?_) fun d=>?_
 ·have o:=d;refine yx 1<|q9 (rB (rS (qt (rB (rS (yR1 (.bool false) ?_))))));refine⟨zc ?_,Up.ch b⟩;unfold utB US.pend;simp[o]
 have f:=d;refine qk (nB (nS ?_));refine q7<|yp 2 [] (.q6 1 .z)<|yE (nU (yU1 ?_));refine yx 1<|ys<|yct<|yk<|ys<|qa<|ysr<|yp 3 [] (.i 1 (3) (.l (a.c 1) .z))<|ye<|yx 2<|yc (rI x1 0) (fun g=>?_) fun g=>?_
 ·have r:=g;refine yx 1<|q9 (rB (rS (qt (rB (rS (yR1 (.bool false) ?_))))));refine⟨zc ?_,Up.ch b⟩;unfold utB US.pend;simp[f,r]
 have k:=g;refine qk (nB (nS ?_));refine q7<|yp 2 [] (.q6 2 .z)<|yE (nU (yU1 ?_));refine yx 1<|ys<|yct<|yk<|ys<|qa<|ysr<|yp 3 [] (.i 2 (3) (.l (a.c 2) .z))<|ye<|yx 2<|yc (rI x2 0) (fun h=>?_) fun h=>?_
 ·have s:=h;refine yx 1<|q9 (rB (rS (qt (rB (rS (yR1 (.bool false) ?_))))));refine⟨zc ?_,Up.ch b⟩;unfold utB US.pend;simp[f,k,s]
 have t:=h;refine qk (nB (nS ?_));refine q7<|yp 2 [] (.q6 3 .z)<|yE (nU (yU1 ?_));refine yx 1<|ys<|ycf<|ql (eS (qd (qb (nS ?_))));refine ysr<|yp 12 [] (.l (a.c 3) .z)<|ye<|q9 (yR1 (.bool true) ?_);refine⟨zc ?_,Up.ch b⟩;unfold utB US.pend;simp[f,k,t]
theorem qpu (x0:Int)(x1:Int)(x2:Int)(w:World)(hU:qcy w)(hB:∀x∈([x0,x1,x2]:List Int),0<=x/\x<=255):Calls Tryz.prog 137 [.agg #[uX x0,uX x1,uX x2,iX 1]].toArray w fun e w'=>e= .returned (.bool (utB ⟨x0,x1,x2,1⟩))/\Ch (fun _=>False) w w':=by
 refine yA Tryz.func137 rfl<|ysr<|yo (yN [uX x0,uX x1,uX x2,iX 1] 92 fun y k m A a g=>?_);have B:=zn m (zm w);have b:=zu (zm w) g iZ;have n:=qac g hU id id;refine yz 2<|ys<|ysr<|yp 8 [] (.l (a.c 3) (.l (a.c 3) .z))<|ye<|ycf<|yk<|ys<|ysr<|yp 6 [3] (.l (a.c 3) (.j 1 (3) (.p (q:=1<3) (by omega) .z)))<|ye<|qa<|yU 3 (yU1 ?_);refine yx 1<|ys<|yct<|yk<|ys<|qa<|ysr<|yp 3 [] (.i 0 (2) (.l (a.c 1) .z))<|ye<|yx 2<|yc (rI x1 0) (fun d=>?_) fun d=>?_
 ·have o:=d;refine yx 1<|q9 (rB (rS (qt (rB (rS (yR1 (.bool false) ?_))))));refine⟨zc ?_,Up.ch b⟩;unfold utB US.pend;simp[o]
 have h:=d;refine qk (nB (nS ?_));refine q7<|yp 2 [] (.q6 1 .z)<|yE (nU (yU1 ?_));refine yx 1<|ys<|yct<|yk<|ys<|qa<|ysr<|yp 3 [] (.i 1 (2) (.l (a.c 2) .z))<|ye<|yx 2<|yc (rI x2 0) (fun f=>?_) fun f=>?_
 ·have s:=f;refine yx 1<|q9 (rB (rS (qt (rB (rS (yR1 (.bool false) ?_))))));refine⟨zc ?_,Up.ch b⟩;unfold utB US.pend;simp[h,s]
 have t:=f;refine qk (nB (nS ?_));refine q7<|yp 2 [] (.q6 2 .z)<|yE (nU (yU1 ?_));refine yx 1<|ys<|ycf<|ql (eS (qd (qb (nS ?_))));refine ysr<|yp 8 [] (.l (a.c 3) (.l (a.c 3) (.j 1 (3) .z)))<|yo (yQ (qcp k 0 3 [x0] n (Rd.pre (ys:=[x0].map (Value.int .u8)) (r:=[uX x1,uX x2,iX 1]) a) a.lt (fun x hx=>hB x (by simp only[List.mem_cons,List.not_mem_nil,or_false]at hx⊢;first|exact hx|(rcases hx with hx|hx;exact .inl hx;exact .inr (.inl hx))|exact .inl hx)) (qbY rfl)) fun C u=>?_);have v:=zu b u iZ;refine yz 12<|q9 (yR1 (.bool (!(qbO [x0]))) ?_);refine⟨zc ?_,Up.ch v⟩;unfold utB US.pend;simp[h,t]
theorem qpv (x0:Int)(x1:Int)(x2:Int)(w:World)(hU:qcy w)(hB:∀x∈([x0,x1,x2]:List Int),0<=x/\x<=255):Calls Tryz.prog 137 [.agg #[uX x0,uX x1,uX x2,iX 2]].toArray w fun e w'=>e= .returned (.bool (utB ⟨x0,x1,x2,2⟩))/\Ch (fun _=>False) w w':=by
 refine yA Tryz.func137 rfl<|ysr<|yo (yN [uX x0,uX x1,uX x2,iX 2] 92 fun t g h u a d=>?_);have v:=zn h (zm w);have f:=zu (zm w) d iZ;have k:=qac d hU id id;refine yz 2<|ys<|ysr<|yp 8 [] (.l (a.c 3) (.l (a.c 3) .z))<|ye<|ycf<|yk<|ys<|ysr<|yp 6 [3] (.l (a.c 3) (.j 2 (3) (.p (q:=2<3) (by omega) .z)))<|ye<|qa<|yU 2 (yU1 ?_);refine yx 1<|ys<|yct<|yk<|ys<|qa<|ysr<|yp 3 [] (.i 0 (1) (.l (a.c 2) .z))<|ye<|yx 2<|yc (rI x2 0) (fun b=>?_) fun b=>?_
 ·have m:=b;refine yx 1<|q9 (rB (rS (qt (rB (rS (yR1 (.bool false) ?_))))));refine⟨zc ?_,Up.ch f⟩;unfold utB US.pend;simp[m]
 have n:=b;refine qk (nB (nS ?_));refine q7<|yp 2 [] (.q6 1 .z)<|yE (nU (yU1 ?_));refine yx 1<|ys<|ycf<|ql (eS (qd (qb (nS ?_))));refine ysr<|yp 8 [] (.l (a.c 3) (.l (a.c 3) (.j 2 (3) .z)))<|yo (yQ (qcp g 0 3 [x0,x1] k (Rd.pre (ys:=[x0,x1].map (Value.int .u8)) (r:=[uX x2,iX 2]) a) a.lt (fun x hx=>hB x (by simp only[List.mem_cons,List.not_mem_nil,or_false]at hx⊢;first|exact hx|(rcases hx with hx|hx;exact .inl hx;exact .inr (.inl hx))|exact .inl hx)) (qbY rfl)) fun y o=>?_);have s:=zu f o iZ;refine yz 12<|q9 (yR1 (.bool (!(qbO [x0,x1]))) ?_);refine⟨zc ?_,Up.ch s⟩;unfold utB US.pend;simp[n]
theorem qpw (x0:Int)(x1:Int)(x2:Int)(w:World)(hU:qcy w)(hB:∀x∈([x0,x1,x2]:List Int),0<=x/\x<=255):Calls Tryz.prog 137 [.agg #[uX x0,uX x1,uX x2,iX 3]].toArray w fun e w'=>e= .returned (.bool (utB ⟨x0,x1,x2,3⟩))/\Ch (fun _=>False) w w':=by
 refine yA Tryz.func137 rfl<|ysr<|yo (yN [uX x0,uX x1,uX x2,iX 3] 92 fun m d f n a b=>?_);have o:=zn f (zm w);have g:=zu (zm w) b iZ;have h:=qac b hU id id;refine yz 2<|ys<|ysr<|yp 8 [] (.l (a.c 3) (.l (a.c 3) .z))<|ye<|ycf<|yk<|ys<|ysr<|yp 6 [] (.l (a.c 3) (.j 3 (3) .z))<|ye<|qa<|yU 1 (yU1 ?_);refine yx 1<|ys<|ycf<|ql (eS (qd (qb (nS ?_))));refine ysr<|yp 8 [] (.l (a.c 3) (.l (a.c 3) (.j 3 (3) .z)))<|yo (yQ (qcp d 0 3 [x0,x1,x2] h (Rd.pre (ys:=[x0,x1,x2].map (Value.int .u8)) (r:=[iX 3]) a) a.lt (fun x hx=>hB x (by simp only[List.mem_cons,List.not_mem_nil,or_false]at hx⊢;first|exact hx|(rcases hx with hx|hx;exact .inl hx;exact .inr (.inl hx))|exact .inl hx)) (qbY rfl)) fun p i=>?_);have k:=zu g i iZ;refine yz 12<|q9 (yR1 (.bool (!(qbO [x0,x1,x2]))) ?_);refine⟨zc ?_,Up.ch k⟩;unfold utB US.pend;simp[true_and]
theorem qpx {u:US}(h:u.n<0\/3<u.n):false=utB u:=by
 unfold utB;rcases h with h|h
 ·rw[decide_eq_false (show¬0<=u.n by omega)];rfl
 rw[decide_eq_false (show¬u.n<=3 by omega),Bool.and_false];rfl
theorem qpy (u:US)(w:World)(hn:u.n<0\/3<u.n):Calls Tryz.prog 137 [.agg #[uX u.b0,uX u.b1,uX u.b2,iX u.n]].toArray w fun e w'=>e= .returned (.bool (utB u))/\Ch (fun _=>False) w w':=by
 refine yA Tryz.func137 rfl<|ysr<|yo (yN [uX u.b0,uX u.b1,uX u.b2,iX u.n] 92 fun i j g k d h=>?_);have m:=zn g (zm w);have f:=zu (zm w) h iZ;refine yz 2<|ys<|ysr<|yp 4 [] (.l (d.c 3) .z)<|yw [8] (rL u.n 0) (fun a=>?_) fun a=>?_
 ·have o:=a;refine yz 8<|yct<|yx 1<|q9 (rS (yR1 (.bool false) ?_));exact⟨congrArg Ending.returned (congrArg Value.bool (qpx hn)),Up.ch f⟩
 have p:=a;refine yp 8 [] (.l (d.c 3) .z)<|ye<|yc (rL 3 u.n) (fun b=>?_) fun b=>?_
 ·have q:=b;refine yx 1<|q9 (rS (yR1 (.bool false) ?_));exact⟨congrArg Ending.returned (congrArg Value.bool (qpx hn)),Up.ch f⟩
 have r:=b;exfalso;omega
theorem urightE (u:US)(w:World)(hU:qcy w)(ho:u.ok):Calls Tryz.prog 137 [.agg #[uX u.b0,uX u.b1,uX u.b2,iX u.n]].toArray w fun e w'=>e= .returned (.bool (utB u))/\Ch (fun _=>False) w w':=by
 obtain⟨a,b,c,n⟩:=u;obtain⟨d,f,g,h⟩:=ho;dsimp only at*;have hB:∀x∈([a,b,c]:List Int),0<=x/\x<=255:=fun x hx=>by
  simp only[List.mem_cons,List.not_mem_nil,or_false]at hx;rcases hx with rfl|rfl|rfl<;>assumption
 by_cases hn:n<0\/3<n
 ·exact qpy ⟨a,b,c,n⟩ w hn
 have hn:n=0\/n=1\/n=2\/n=3:=by omega
 rcases hn with rfl|rfl|rfl|rfl
 ·exact qpt a b c w hU hB
 ·exact qpu a b c w hU hB
 ·exact qpv a b c w hU hB
 exact qpw a b c w hU hB
theorem unm_t {p:PS}{pn:Nat}(h:zb p.marks=true)(hl:p.params.length=pn):qgG p=(((pn:Nat):Int)==0):=by
 unfold qgG;rw[h,hl,Bool.true_and,Bool.eq_iff_iff,beq_iff_eq,beq_iff_eq];omega
theorem pr_neg {p:PS}(h1:p.state=7\/p.within=0)(h2:p.state=0\/qcP p.utf=true):¬((p.state≠7/\p.within≠0)\/(p.state≠0/\qcP p.utf=false)):=fun h=>h.elim (fun a=>h1.elim a.1 a.2) fun a=>h2.elim a.1 fun b=>by rw[b]at a;cases a.2
theorem qg9 {p:PS}(h:¬((p.state≠7/\p.within≠0)\/(p.state≠0/\qcP p.utf=false))):qG p=(if p.state=0 then utB p.utf&&qgG p&&zb p.text
  else if p.state=1 then qgG p&&zb p.text
  else if p.state=2 then qbe 1 qk5 p.marks&&p.params.length==0&&zb p.text
  else if p.state=3\/p.state=4 then qbe 0 qbQ p.marks&&qgH p.params&&zb p.text
  else if p.state=7 then(if p.within≠5/\p.within≠6 then false else qgG p&&qdt p.text)
  else if p.state=5\/p.state=6 then qgG p&&qdt p.text
  else false):=if_neg h
theorem unm_f {p:PS}(h:zb p.marks=false):qgG p=false:=by unfold qgG;rw[h];rfl
theorem rightE (p:PS)(pa:Option Addr)(pn pc:Nat)(w:World)(hU:qcy w)(ho:p.utf.ok)(hr:Rd w pa (p.params.map (Value.int .i64)))(hl:p.params.length=pn)(hz:pn=0\/ ∃b o,pa=some ⟨b,o,none⟩)(hn:pn<=8)(htz:p.text.size<=1000):Calls Tryz.prog 117 [.agg #[iX p.state,uX p.utf.b0,uX p.utf.b1,uX p.utf.b2,iX p.utf.n,.string p.marks,.slice pa pn pc,.string p.text,iX p.within]].toArray w fun e w'=>e= .returned (.bool (qG p))/\Ch (fun _=>False) w w':=by
 have h:=Sep.nil w;refine yA Tryz.func117 rfl<|ysr<|yo (zN [iX p.state,uX p.utf.b0,uX p.utf.b1,uX p.utf.b2,iX p.utf.n,.string p.marks,.slice pa pn pc,.string p.text,iX p.within] 94 h fun u f h=>?_);refine yz 2<|ysr<|yp 5 [] (.a (h.cs 0 1 4) .z)<|ye<|qaJ ([(1,pX f),(3,.bool ((((p.utf.b0:Int)==0)&&(((p.utf.b1:Int)==0)&&(((p.utf.b2:Int)==0)&&true)))&&(((p.utf.n:Int)==0)&&true))),(4,.bool (qgG p))]) (fun u=>Sep w (fun _=>False) u [qbr f [iX p.state,uX p.utf.b0,uX p.utf.b1,uX p.utf.b2,iX p.utf.n,.string p.marks,.slice pa pn pc,.string p.text,iX p.within] 94]) (fun a0 U=>?_) (fun u h=>?_)
 ·refine q7<|yp 4 [] (.l (h.c 0 5) .z)<|yw [12] (rY ((p.marks).toList==(ByteArray.empty).toList)) (fun g=>?_) fun g=>?_
  ·have V:zb p.marks=true:=g;refine yp 10 [] (.l (h.c 0 6) .z)<|yE (fun a ha=>U _ h a (by rw[unm_t V hl];exact ha.kp [1,3,4]))
  have W:zb p.marks=false:=g;refine yq 10<|yE (fun a ha=>U _ h a (by rw[unm_f W];exact ha.kp [1,3,4]))
 refine qaJ ([(1,pX f),(4,.bool (qgG p))]) (fun u=>Sep w (fun _=>False) u [qbr f [iX p.state,uX p.utf.b0,uX p.utf.b1,uX p.utf.b2,iX p.utf.n,.string p.marks,.slice pa pn pc,.string p.text,iX p.within] 94]/\(p.state=7\/p.within=0)/\(p.state=0\/qcP p.utf=true)) (fun a1 i=>?_) (fun u h=>?_)
 ·refine ysr<|yp 4 [] (.l (h.c 0 0) .z)<|yw [21] (rI p.state 7) (fun j=>?_) fun j=>?_
  ·have a2:=j;refine yp 9 [] (.l (h.c 0 8) .z)<|yw [26] (rI p.within 0) (fun k=>?_) fun k=>?_
   ·have a3:=k;refine yz 17<|yct<|yx 1<|q9 (qt (yR1 (.bool false) ?_));refine⟨zc ?_,h.ch⟩;simp[qG,zb, *]
   have a4:=k;refine yp 13 [] (.l (h.c 0 0) .z)<|yw [30] (rI p.state 0) (fun m=>?_) fun m=>?_
   ·have a5:=m;refine yz 17<|yc (rN (rY ((((p.utf.b0:Int)==0)&&(((p.utf.b1:Int)==0)&&(((p.utf.b2:Int)==0)&&true)))&&(((p.utf.n:Int)==0)&&true)))) (fun q=>?_) fun q=>?_
    ·have a6:qcP p.utf=false:=by rw[<-q];unfold qcP;simp[Bool.and_assoc]
     refine yx 1<|q9 (qt (yR1 (.bool false) ?_));refine⟨zc ?_,h.ch⟩;simp[qG,zb, *]
    have a7:qcP p.utf=true:=by rw[<-q];unfold qcP;simp[Bool.and_assoc]
    refine qk (fun a ha=>i _ ⟨h,by first|exact .inl (by assumption)|exact .inr (by assumption),by first|exact .inl (by assumption)|exact .inr (by assumption)⟩ a (ha.kp [1,4]))
   have a8:=m;refine yz 17<|ycf<|qk (fun a ha=>i _ ⟨h,by first|exact .inl (by assumption)|exact .inr (by assumption),by first|exact .inl (by assumption)|exact .inr (by assumption)⟩ a (ha.kp [1,4]))
  have a9:=j;refine yp 13 [] (.l (h.c 0 0) .z)<|yw [30] (rI p.state 0) (fun r=>?_) fun r=>?_
  ·have aa:=r;refine yz 17<|yc (rN (rY ((((p.utf.b0:Int)==0)&&(((p.utf.b1:Int)==0)&&(((p.utf.b2:Int)==0)&&true)))&&(((p.utf.n:Int)==0)&&true)))) (fun s=>?_) fun s=>?_
   ·have ab:qcP p.utf=false:=by rw[<-s];unfold qcP;simp[Bool.and_assoc]
    refine yx 1<|q9 (qt (yR1 (.bool false) ?_));refine⟨zc ?_,h.ch⟩;simp[qG,zb, *]
   have ac:qcP p.utf=true:=by rw[<-s];unfold qcP;simp[Bool.and_assoc]
   refine qk (fun a ha=>i _ ⟨h,by first|exact .inl (by assumption)|exact .inr (by assumption),by first|exact .inl (by assumption)|exact .inr (by assumption)⟩ a (ha.kp [1,4]))
  have ad:=r;exfalso;omega
 obtain⟨h,X,Y⟩:=h;have d:=pr_neg X Y;refine ys<|ysr<|yp 2 [] (.l (h.c 0 0) .z)<|ye<|qa<|ys<|qa<|ys<|qa<|ys<|qa<|ys<|qa<|ys<|qa<|ys<|qa<|ys<|ys<|yx 2<|yc (rE p.state 0) (fun t=>?_) fun t=>?_
 ·have ae:=t;refine ql (eS (eS (qb (nS ?_))));refine ys<|ysr<|yp 2 [] (.a (h.cs 0 1 4) .z)<|yo (yQ (h.look (urightE p.utf _ (qac h.ch hU id id) ho)) fun u h=>?_);refine yq 4<|yw [54] (rY (utB p.utf)) (fun v=>?_) fun v=>?_
  ·have af:=v;refine yq 7<|yw [57] (rY (qgG p)) (fun x=>?_) fun x=>?_
   ·have ag:=x;refine yp 12 [] (.l (h.c 0 7) .z)<|ye<|q9 (rS (rB (rS (rB (rS (rB (rS (rB (rS (rB (rS (rB (rS (yR1 (.bool ((p.text).toList==(ByteArray.empty).toList)) ?_))))))))))))));refine⟨zc ?_,h.ch⟩;rw[qg9 d];simp[qG,zb, *]<;>omega
   have ah:=x;refine yz 12<|q9 (rS (rB (rS (rB (rS (rB (rS (rB (rS (rB (rS (rB (rS (yR1 (.bool false) ?_))))))))))))));refine⟨zc ?_,h.ch⟩;rw[qg9 d];simp[qG,zb, *]<;>omega
  have ai:=v;refine yz 12<|q9 (rS (rB (rS (rB (rS (rB (rS (rB (rS (rB (rS (rB (rS (yR1 (.bool false) ?_))))))))))))));refine⟨zc ?_,h.ch⟩;rw[qg9 d];simp[qG,zb, *]<;>omega
 have aj:=t;refine yk<|ys<|yx 2<|yc (rE p.state 1) (fun y=>?_) fun y=>?_
 ·have ak:=y;refine ql (eS (eS (eB (eS (qb (nS ?_))))));refine ys<|ysr<|yq 2<|yw [63] (rY (qgG p)) (fun A=>?_) fun A=>?_
  ·have al:=A;refine yp 7 [] (.l (h.c 0 7) .z)<|ye<|q9 (rS (rB (rS (rB (rS (rB (rS (rB (rS (rB (rS (yR1 (.bool ((p.text).toList==(ByteArray.empty).toList)) ?_))))))))))));refine⟨zc ?_,h.ch⟩;rw[qg9 d];simp[qG,zb, *]<;>omega
  have am:=A;refine yz 7<|q9 (rS (rB (rS (rB (rS (rB (rS (rB (rS (rB (rS (yR1 (.bool false) ?_))))))))))));refine⟨zc ?_,h.ch⟩;rw[qg9 d];simp[qG,zb, *]<;>omega
 have an:=y;refine yk<|ys<|yx 2<|yc (rE p.state 2) (fun B=>?_) fun B=>?_
 ·have ao:=B;refine ql (eS (eS (eB (eS (eB (eS (qb (nS ?_))))))));refine ys<|ysr<|yp 1 [] (.a (h.cs 0 0 9) .z)<|yo (yQ (h.look (qnk p pa pn pc _)) fun u h=>?_);refine yq 3<|yw [70] (rY (qbe 1 qk5 p.marks)) (fun C=>?_) fun C=>?_
  ·have ap:=C;refine yp 9 [] (.l (h.c 0 6) .z)<|yw [76] (rE ((pn:Nat):Int) 0) (fun Z=>?_) fun Z=>?_
   ·have aq:(p.params.length==0)=true:=by rw[hl];first|(rw[beq_iff_eq];omega)|(rw[beq_eq_false_iff_ne];omega)
    refine yp 14 [] (.l (h.c 0 7) .z)<|ye<|q9 (rS (rB (rS (rB (rS (rB (rS (rB (rS (yR1 (.bool ((p.text).toList==(ByteArray.empty).toList)) ?_))))))))));refine⟨zc ?_,h.ch⟩;rw[qg9 d];simp[qG,zb, *]<;>omega
   have ar:(p.params.length==0)=false:=by rw[hl];first|(rw[beq_iff_eq];omega)|(rw[beq_eq_false_iff_ne];omega)
   refine yz 14<|q9 (rS (rB (rS (rB (rS (rB (rS (rB (rS (yR1 (.bool false) ?_))))))))));refine⟨zc ?_,h.ch⟩;rw[qg9 d];simp[qG,zb, *]<;>omega
  have au:=C;refine yz 14<|q9 (rS (rB (rS (rB (rS (rB (rS (rB (rS (yR1 (.bool false) ?_))))))))));refine⟨zc ?_,h.ch⟩;rw[qg9 d];simp[qG,zb, *]<;>omega
 have av:=B;refine yk<|ys<|ys<|yx 2<|yc (rE p.state 3) (fun D=>?_) fun D=>?_
 ·have aw:=D;refine yk<|yc (rE p.state 3) (fun E=>?_) fun E=>?_
  ·have ax:=E;refine ql (eS (eS (eB (eS (eB (eS (eB (eS (qb (nS ?_))))))))));refine ys<|ysr<|yp 1 [] (.a (h.cs 0 0 9) .z)<|yo (yQ (h.look (qgQ p pa pn pc _)) fun u h=>?_);refine yq 3<|yw [83] (rY (qbe 0 qbQ p.marks)) (fun F=>?_) fun F=>?_
   ·have ay:=F;refine yp 4 [] (.a (h.cs 0 0 9) .z)<|yo (yQ (h.look (qmg p pa pn pc _ (hr.ch h.ch fun _ _ h=>h) hl hz hn)) fun u h=>?_);refine yq 7<|yw [87] (rY (qgH p.params)) (fun G=>?_) fun G=>?_
    ·have az:=G;refine yp 12 [] (.l (h.c 0 7) .z)<|ye<|q9 (rS (rB (rS (rB (rS (rB (rS (yR1 (.bool ((p.text).toList==(ByteArray.empty).toList)) ?_))))))));refine⟨zc ?_,h.ch⟩;rw[qg9 d];simp[qG,zb, *]<;>omega
    have aA:=G;refine yz 12<|q9 (rS (rB (rS (rB (rS (rB (rS (yR1 (.bool false) ?_))))))));refine⟨zc ?_,h.ch⟩;rw[qg9 d];simp[qG,zb, *]<;>omega
   have aB:=F;refine yz 12<|q9 (rS (rB (rS (rB (rS (rB (rS (yR1 (.bool false) ?_))))))));refine⟨zc ?_,h.ch⟩;rw[qg9 d];simp[qG,zb, *]<;>omega
  have aC:=E;exfalso;omega
 have aD:=D;refine q7<|yz 2<|yc (rE p.state 4) (fun H=>?_) fun H=>?_
 ·have aE:=H;refine ql (eS (eS (eB (eS (eB (eS (eB (eS (qb (nS ?_))))))))));refine ys<|ysr<|yp 1 [] (.a (h.cs 0 0 9) .z)<|yo (yQ (h.look (qgQ p pa pn pc _)) fun u h=>?_);refine yq 3<|yw [83] (rY (qbe 0 qbQ p.marks)) (fun I=>?_) fun I=>?_
  ·have aF:=I;refine yp 4 [] (.a (h.cs 0 0 9) .z)<|yo (yQ (h.look (qmg p pa pn pc _ (hr.ch h.ch fun _ _ h=>h) hl hz hn)) fun u h=>?_);refine yq 7<|yw [87] (rY (qgH p.params)) (fun J=>?_) fun J=>?_
   ·have aG:=J;refine yp 12 [] (.l (h.c 0 7) .z)<|ye<|q9 (rS (rB (rS (rB (rS (rB (rS (yR1 (.bool ((p.text).toList==(ByteArray.empty).toList)) ?_))))))));refine⟨zc ?_,h.ch⟩;rw[qg9 d];simp[qG,zb, *]<;>omega
   have aH:=J;refine yz 12<|q9 (rS (rB (rS (rB (rS (rB (rS (yR1 (.bool false) ?_))))))));refine⟨zc ?_,h.ch⟩;rw[qg9 d];simp[qG,zb, *]<;>omega
  have aI:=I;refine yz 12<|q9 (rS (rB (rS (rB (rS (rB (rS (yR1 (.bool false) ?_))))))));refine⟨zc ?_,h.ch⟩;rw[qg9 d];simp[qG,zb, *]<;>omega
 have aJ:=H;refine yk<|ys<|yx 2<|yc (rE p.state 7) (fun K=>?_) fun K=>?_
 ·have aK:=K;refine ql (eS (eS (eB (eS (eB (eS (eB (eS (eB (eS (qb (nS ?_))))))))))));refine ysr<|yp 4 [] (.l (h.c 0 8) .z)<|yw [95] (rI p.within 5) (fun L=>?_) fun L=>?_
  ·have aL:=L;refine yp 8 [] (.l (h.c 0 8) .z)<|ye<|yc (rI p.within 6) (fun M=>?_) fun M=>?_
   ·have aM:=M;refine yx 1<|q9 (rB (rS (rB (rS (yR1 (.bool false) ?_)))));refine⟨zc ?_,h.ch⟩;rw[qg9 d];simp[qG,zb, *]<;>omega
   have aN:=M;refine qk (nB (nS ?_));refine ys<|ysr<|yq 2<|yw [101] (rY (qgG p)) (fun N=>?_) fun N=>?_
   ·have aO:=N;refine yp 3 [] (.a (h.cs 0 0 9) .z)<|yo (yQ (h.look (qmf p pa pn pc _ htz)) fun u h=>?_);refine yz 6<|q9 (rS (rB (rS (yR1 (.bool (qdt p.text)) ?_))));refine⟨zc ?_,h.ch⟩;rw[qg9 d];simp[qG,zb, *]<;>omega
   have aP:=N;refine yz 6<|q9 (rS (rB (rS (yR1 (.bool false) ?_))));refine⟨zc ?_,h.ch⟩;rw[qg9 d];simp[qG,zb, *]<;>omega
  have aQ:=L;refine yz 8<|ycf<|qk (nB (nS ?_));refine ys<|ysr<|yq 2<|yw [101] (rY (qgG p)) (fun O=>?_) fun O=>?_
  ·have aR:=O;refine yp 3 [] (.a (h.cs 0 0 9) .z)<|yo (yQ (h.look (qmf p pa pn pc _ htz)) fun u h=>?_);refine yz 6<|q9 (rS (rB (rS (yR1 (.bool (qdt p.text)) ?_))));refine⟨zc ?_,h.ch⟩;rw[qg9 d];simp[qG,zb, *]<;>omega
  have aS:=O;refine yz 6<|q9 (rS (rB (rS (yR1 (.bool false) ?_))));refine⟨zc ?_,h.ch⟩;rw[qg9 d];simp[qG,zb, *]<;>omega
 have aT:=K;refine yk<|ys<|yx 2<|yc (rE p.state 5) (fun P=>?_) fun P=>?_
 ·have aU:=P;refine yk<|yc (rE p.state 5) (fun Q=>?_) fun Q=>?_
  ·have aV:=Q;refine ql (eS (eB (eS (eB (eS (eB (eS (eB (eS (eB (eS (qb (nS ?_)))))))))))));refine ys<|ysr<|yq 2<|yw [101] (rY (qgG p)) (fun R=>?_) fun R=>?_
   ·have aW:=R;refine yp 3 [] (.a (h.cs 0 0 9) .z)<|yo (yQ (h.look (qmf p pa pn pc _ htz)) fun u h=>?_);refine yz 6<|q9 (rS (rB (rS (yR1 (.bool (qdt p.text)) ?_))));refine⟨zc ?_,h.ch⟩;rw[qg9 d];simp[qG,zb, *]<;>omega
   have aX:=R;refine yz 6<|q9 (rS (rB (rS (yR1 (.bool false) ?_))));refine⟨zc ?_,h.ch⟩;rw[qg9 d];simp[qG,zb, *]<;>omega
  have aY:=Q;exfalso;omega
 have aZ:=P;refine q7<|yz 2<|yc (rE p.state 6) (fun S=>?_) fun S=>?_
 ·have b3:=S;refine ql (eS (eB (eS (eB (eS (eB (eS (eB (eS (eB (eS (qb (nS ?_)))))))))))));refine ys<|ysr<|yq 2<|yw [101] (rY (qgG p)) (fun T=>?_) fun T=>?_
  ·have b4:=T;refine yp 3 [] (.a (h.cs 0 0 9) .z)<|yo (yQ (h.look (qmf p pa pn pc _ htz)) fun u h=>?_);refine yz 6<|q9 (rS (rB (rS (yR1 (.bool (qdt p.text)) ?_))));refine⟨zc ?_,h.ch⟩;rw[qg9 d];simp[qG,zb, *]<;>omega
  have b5:=T;refine yz 6<|q9 (rS (rB (rS (yR1 (.bool false) ?_))));refine⟨zc ?_,h.ch⟩;rw[qg9 d];simp[qG,zb, *]<;>omega
 have b6:=S;refine yk<|ql (eB (eS (eB (eS (eB (eS (eB (eS (eB (eS (eB (eS (qb (nS ?_))))))))))))));refine yx 1<|q9 (yR1 (.bool false) ?_);refine⟨zc ?_,h.ch⟩;rw[qg9 d];simp[qG,zb, *]<;>omega
theorem qdN {P:Program}{N:Nat}{Q:Exit->Act->World->Prop}{f:Fr}{w:World}{x y:Code}{σ:Type}(f':σ->Fr)(I:σ->World->Prop)
  (h1:∀K:Act->World->Prop,(∀s u,I s u-> ∀a,Has N (f' s) a->K a u)->WC P N (Exit.then K Q) x f w) (h2:∀s u,I s u->WC P N Q y (f' s) u):WC P N Q (.seq x y) f w:=
 x_seq fun K hK=>h1 K fun s u hI a ha=>hK (f' s) u (h2 s u hI) a ha
abbrev tSr:TypeId:=165
structure RowO where
 b:Option Nat
 n:Nat
 cap:Nat
 l:List Cel
def RowO.val (x:RowO):Value:= .slice (x.b.map at0) x.n x.cap
structure RowsO (w:World)(m:Nat)(rows:List RowO):Prop where
 line:∀x∈rows,Own w qdf 6 x.b x.n x.cap (qal x.l)/\x.l.length=x.n
 lo:∀x∈rows,∀b,x.b=some b->m<=b
 nd:rows.Pairwise fun x y=> ∀b,x.b=some b->y.b≠some b
structure OutO (w:World)(m:Nat)(o:Option Nat)(n cap:Nat)(rows:List RowO):Prop where
 own:Own w qbU 1 o n cap (rows.map RowO.val)
 lo:∀b,o=some b->m<=b
 rs:RowsO w m rows
theorem rowO_one (rows:List RowO):((rows.map RowO.val).all fun c=>c.oneCell')=true:=by
 refine List.all_eq_true.2 fun v hv=>?_
 obtain⟨x,_,rfl⟩:=List.mem_map.1 hv
 rfl
section
variable {w w':World}{m n cap:Nat}{o:Option Nat}{rows:List RowO}{B:Nat->Prop}
theorem OutO.nil (w:World)(m:Nat):OutO w m none 0 0 []:=⟨Own.nil _ _ _,(fun b e=>by cases e),⟨(fun x hx=>by cases hx),(fun x hx=>by cases hx),List.Pairwise.nil⟩⟩
theorem RowsO.ch (h:RowsO w m rows)(hc:Ch B w w')(hB:∀x∈rows,∀b,x.b=some b-> ¬B b):RowsO w' m rows:=
 ⟨fun x hx=>⟨(h.line x hx).1.ch hc fun g e=>hB x hx g e,(h.line x hx).2⟩,h.lo,h.nd⟩
theorem RowsO.lt (h:RowsO w m rows):∀x∈rows,∀b,x.b=some b->b<w.heap.size:=fun x hx b e=>by
 have:=(h.line x hx).1
 rw[e]at this
 exact this.lt
theorem OutO.ch (h:OutO w m o n cap rows)(hc:Ch B w w')(hB:∀b,m<=b->b<w.heap.size-> ¬B b):OutO w' m o n cap rows:=
 ⟨h.own.ch hc fun g e=>hB g (h.lo g e) (by have:=h.own;rw[e]at this;exact this.lt),h.lo,h.rs.ch hc fun x hx b e=>hB b (h.rs.lo x hx b e) (h.rs.lt x hx b e)⟩
theorem OutO.len (h:OutO w m o n cap rows):rows.length=n:=by
 have:=h.own.1
 rwa[List.length_map,Nat.mul_one]at this
theorem OutO.low {m':Nat}(h:OutO w m o n cap rows)(hm:m'<=m):OutO w m' o n cap rows:=
 ⟨h.own,fun b e=>Nat.le_trans hm (h.lo b e),⟨h.rs.line,fun x hx b e=>Nat.le_trans hm (h.rs.lo x hx b e),h.rs.nd⟩⟩
theorem OutO.off (h:OutO w m o n cap rows){e:Option Nat}{k c:Nat}{xs:List Value}(ho:Own w qbU 1 e k c xs):∀x∈rows,∀b,x.b=some b-> ¬e=some b:=fun x hx b hb he=>by
 obtain⟨h1,h2⟩:=h.rs.line x hx
 rw[hb]at h1
 obtain⟨r1,_,k1⟩:=h1.2.2.2.2 b rfl
 obtain⟨r2,_,k2⟩:=ho.2.2.2.2 b he
 exact tys (k2.inj k1).2
theorem OutO.app {o':Option Nat}{cap' n':Nat}{rows':List RowO}(h:OutO w m o n cap rows)(hr:RowsO w m rows')(hm:m<=w.heap.size)(hd:∀x∈rows,∀y∈rows',∀b,x.b=some b->y.b≠some b)
  (hO:Own w' qbU 1 o' n' cap' ((rows++rows').map RowO.val)) (hA:App w w' o o'):OutO w' m o' n' cap' (rows++rows'):=by
 have hoff':∀x∈rows',∀b,x.b=some b-> ¬o=some b:=fun x hx b hb he=>by
  obtain⟨h1,h2⟩:=hr.line x hx
  rw[hb]at h1
  obtain⟨r1,_,k1⟩:=h1.2.2.2.2 b rfl
  obtain⟨r2,_,k2⟩:=h.own.2.2.2.2 b he
  exact tys (k2.inj k1).2
 refine⟨hO,fun b e=>?_,⟨fun x hx=>?_,fun x hx=>?_,?_⟩⟩
 ·rcases hA.ne with rfl|⟨g,rfl,hg⟩
  ·exact h.lo b e
  ·have:=Option.some.inj e;omega
 ·rcases List.mem_append.1 hx with hx|hx
  ·exact⟨(h.rs.line x hx).1.ch hA.ch fun g e=>h.off h.own x hx g e,(h.rs.line x hx).2⟩
  ·exact⟨(hr.line x hx).1.ch hA.ch fun g e=>hoff' x hx g e,(hr.line x hx).2⟩
 ·rcases List.mem_append.1 hx with hx|hx
  ·exact h.rs.lo x hx
  ·exact hr.lo x hx
 ·exact List.pairwise_append.2 ⟨h.rs.nd,hr.nd,fun x hx y hy=>hd x hx y hy⟩
theorem RowsO.one {b:Option Nat}{k c:Nat}{l:List Cel}(h:Own w qdf 6 b k c (qal l))(hl:l.length=k)(hlo:∀y,b=some y->m<=y):RowsO w m [⟨b,k,c,l⟩]:=
 ⟨fun x hx=>by rw[List.mem_singleton.1 hx];exact⟨h,hl⟩,fun x hx=>by rw[List.mem_singleton.1 hx];exact hlo,List.pairwise_singleton _ _⟩
end
structure SrIn (w:World)(sr rv D:Nat)(fine:Bool)(s:RS):Prop where
 blk:Blk w sr [.pointer (some ⟨rv,0,none⟩),.bool fine] tSr
 rd:RdrAt w rv D s
 ne:¬sr=rv
 nd:¬sr=D
def srB (sr rv:Nat):Nat->Prop:=fun j=>j=sr\/j=rv
def rdA (w1:World)(rv D:Nat)(s:RS):Asn:=
  ⟨fun w F=>(∃a n cap ys bad,Blk w rv [.slice a n cap,.bool bad] tRdr/\(Rd w1 a (u8s ys)/\ys.length=n/\n<=cap/\((n=0/\cap=0)\/ ∃o,a=some ⟨D,o,none⟩)/\qaA ys/\ ¬rv=D/\n<=100000000/\D<w1.heap.size)/\s=rsOf bad ys)/\F rv,
   fun⟨⟨a,n,cap,ys,bad,hb,hs⟩,hF⟩ hc hn=>⟨⟨a,n,cap,ys,bad,hb.ch hc (hn rv hF),hs⟩,hF⟩,fun h hF _=>⟨h.1,hF rv h.2⟩⟩
theorem qpz {w w1:World}{D:Nat}{a:Option Addr}{n cap:Nat}{ys:List Int}(h:Rd w1 a (u8s ys))(hl:ys.length=n)(hz:(n=0/\cap=0)\/ ∃o,a=some ⟨D,o,none⟩)(e:w.heap[D]? =w1.heap[D]?):Rd w a (u8s ys):=by
  rcases hz with⟨h0,_⟩|⟨o,rfl⟩
  · obtain rfl:=List.eq_nil_of_length_eq_zero (hl.trans h0)
    exact Rd.nil _ _
  · refine⟨(fun e=>by cases e),fun ad e2 j u hj=>?_⟩
    cases e2
    have:=h.2 ⟨D,o,none⟩ rfl j u hj
    unfold World.cell? at this⊢
    rw[qb7]at this⊢
    dsimp only at this⊢
    rw[e];exact this
section
variable {w0 w w':World}{F0:Nat->Prop}{l:List Asn}{rv D:Nat}{s s1:RS}{i j:Nat}
theorem rdA.of {w1:World}{F:Nat->Prop}(h:RdrAt w rv D s)(e:w.heap[D]? =w1.heap[D]?)(hD:D<w1.heap.size)(hF:F rv):(rdA w1 rv D s).P w F:=by
  obtain⟨a,n,cap,ys,bad,⟨hb,h1,h2,h3,h4,h5,h6,h7,h8⟩,hs⟩:=h
  exact⟨⟨a,n,cap,ys,bad,hb,⟨qpz h1 h2 h4 e.symm,h2,h3,h4,h5,h6,h7,hD⟩,hs⟩,hF⟩
end
section
variable {w0 w w':World}{F0:Nat->Prop}{l:List Asn}{rv D:Nat}{s s1:RS}{i:Nat}
theorem Sep.rdrO (h:Sep w0 F0 w l)(i:Nat)(hD:¬F0 D)(hi:l[i]? =some (rdA w0 rv D s):=by rfl):RdrAt w rv D s:=by
 obtain⟨F,⟨⟨a,n,cap,ys,bad,hb,⟨h1,h2,h3,h4,h5,h6,h7,h8⟩,hs⟩,_⟩,_⟩:=h.at hi
 exact⟨a,n,cap,ys,bad,⟨hb,qpz h1 h2 h4 (h.ch.block D h8 hD),h2,h3,h4,h5,h6,h7,Nat.lt_of_lt_of_le h8 h.ch.size⟩,hs⟩
theorem Sep.readO {P:Program}{k:FuncId}{args:Array Value}{v:Value}(h:Sep w0 F0 w l)(i:Nat)(hD:¬F0 D)(hk:RdrAt w rv D s->Calls P k args w fun e w'=>e= .returned v/\RdrAt w' rv D s1/\Ch (fun j=>j=rv) w w')(hi:l[i]? =some (rdA w0 rv D s):=by rfl):
  Calls P k args w fun e w'=>e= .returned v/\Sep w0 F0 w' (l.set i (rdA w0 rv D s1)):=by
 have hr:=h.rdrO i hD hi
 have hh:=h.ch
 obtain⟨F,h1,h2,h3⟩:=h.ex
 obtain⟨⟨a,n,cap,ys,bad,hb,⟨g1,g2,g3,g4,g5,g6,g7,g8⟩,hs⟩,hF⟩:=h1 i _ hi
 refine(hk hr).mono fun e' w' ⟨he,h5,hc⟩=>⟨he,h.upd hi F h1 h2 h3 (rdA.of h5 ((hc.block D (Nat.lt_of_lt_of_le g8 hh.size) (fun e=>g6 e.symm)).trans (hh.block D g8 hD)) g8 (.inl hF)) (hc.mono fun _ _ e=>e▸hF)⟩
theorem RdrAt.nd (h:RdrAt w rv D s):¬D=rv:=by
 obtain⟨a,n,cap,ys,bad,h,_⟩:=h
 exact fun e=>h.ne e.symm
theorem Sep.startRO (h:RdrAt w rv D s):Sep w (fun j=>j=rv) w [rdA w rv D s]:=
 Sep.one (rdA.of h rfl h.dlt rfl) fun b e=>by subst e;exact h.lt
theorem Sep.addR (h:Sep w0 F0 w l)(hD:¬F0 D)(hD0:D<w0.heap.size)(hr:RdrAt w' rv D s)(hlo:w.heap.size<=rv)(hc:Ch (fun _=>False) w w'):Sep w0 F0 w' (l++[rdA w0 rv D s]):=
 h.add (G:=fun k=>k=rv) (rdA.of hr ((hc.block D (Nat.lt_of_lt_of_le hD0 h.ch.size) fun h=>h).trans (h.ch.block D hD0 hD)) hD0 rfl) (fun b e=>by subst e;exact⟨hlo,hr.lt⟩) hc
end
def ge (l:List Ev)(i:Nat):Ev:=l.getD i ev0
def qU (T:TS)(e:Ev):TS:=if e.kind=0 then qgt T e.data else if e.kind=2 then qcz T e.w e.h else T
def qa3 (T:TS)(l:List Ev):Nat->TS
 |0=>T
 |k+1=>qU (qa3 T l k) (ge l k)
theorem qhX {l:List Ev}(m:List Ev){i:Nat}(h:i<l.length):ge (l++m) i=ge l i:=by
 unfold ge
 rw[List.getD_eq_getElem?_getD,List.getElem?_append_left h,<-List.getD_eq_getElem?_getD]
theorem qiR (l:List Ev)(e:Ev):ge (l++[e]) l.length=e:=by simp[ge]
theorem qkn (T:TS)(l m:List Ev):∀k,k<=l.length->qa3 T (l++m) k=qa3 T l k
 |0,_=>rfl
 |k+1,h=>by rw[qa3,qa3,qkn T l m k (by omega),qhX m (by omega)]
structure Ky where
 after:Nat
 state:List Int
structure Rc where
 start:List Int
 evs:List Ev
 keys:List Ky
def gky (l:List Ky)(i:Nat):Ky:=l.getD i ⟨0,[]⟩
def qZ (l:List Ev)(n:Nat):Int:=if n=0 then 0 else(ge l (n-1)).time
abbrev qae (l:List Ev):Int:=qZ l l.length
def qQ (k:Ky):List Int:=qS k.after++k.state
def qa9 (c:Int)(b:List Int):List Int:=qaa (c::b)
structure Pl where
 out:List Int
 pos:List Int
 k:Nat
def qcS (r:Rc)(i:Nat)(p:Pl):Pl:=if p.k<r.keys.length/\(gky r.keys p.k).after=i then⟨p.out++qa9 75 (qQ (gky r.keys p.k)),p.pos++[((p.out.length:Nat):Int)],p.k+1⟩else p
def evP (r:Rc)(i:Nat)(p:Pl):Pl:=if i<r.evs.length then⟨p.out++qa9 69 (evI (qZ r.evs i) (ge r.evs i)),p.pos,p.k⟩else p
def qC (r:Rc):Nat->Pl
 |0=>⟨qa9 83 r.start,[],0⟩
 |i+1=>evP r i (qcS r i (qC r i))
abbrev qI (r:Rc):Pl:=qC r (r.evs.length+1)
def qha (r:Rc)(pos:List Int):Nat->List Int
 |0=>qS pos.length
 |i+1=>qha r pos i++(qS (gky r.keys i).after++(qS (qZ r.evs (gky r.keys i).after).toNat++qS (pos.getD i 0).toNat))
def qcu (r:Rc)(n:Int)(pos:List Int):List Int:=qa9 73 (qha r pos pos.length)++qa9 70 [IntKind.wrap .u8 n,IntKind.wrap .u8 (Int.fdiv n (2^8)),IntKind.wrap .u8 (Int.fdiv n (2^16)),IntKind.wrap .u8 (Int.fdiv n (2^24))]
def qc8 (r:Rc)(whole:Bool):List Int:=if whole=true then(qI r).out++qcu r (((qI r).out.length:Nat):Int) (qI r).pos else(qI r).out
structure Sc where
 r:Rc
 T:TS
def qiS (s:Sc)(b:List Int):Option Sc:=
 match evR (qae s.r.evs) (some b)with
 |(some e,some [])=>some ⟨⟨s.r.start,s.r.evs++[e],s.r.keys⟩,qU s.T e⟩
 |_=>none
def qpA (s:Sc)(b:List Int):Option Sc:=
 if qQ ⟨s.r.evs.length,qN s.T⟩=b/\ ¬(0<s.r.keys.length/\(gky s.r.keys (s.r.keys.length-1)).after=s.r.evs.length)then some ⟨⟨s.r.start,s.r.evs,s.r.keys++[⟨s.r.evs.length,qN s.T⟩]⟩,s.T⟩else none
def qb5 (s:Sc):List Int->Option Sc
 |[]=>none
 |c::b=>if c=69 then qiS s b else if c=75 then qpA s b else none
def qfq:Nat->Sc->List Int->Nat->Sc×Nat
 |0,s,_,a=>(s,a)
 |n+1,s,l,a=>if(qaV l).2=0 then(s,a)else match qb5 s (qaV l).1 with
  |none=>(s,a)
  |some s'=>qfq n s' (l.drop (qaV l).2) (a+(qaV l).2)
def qfr (dec:List Int->Option TS)(l:List Int):Option (Sc×Nat):=
 if(qaV l).2=0 then none else match(qaV l).1 with
 |[]=>none
 |c::b=>if c=83 then(match dec b with
  |none=>none
  |some T=>some (qfq l.length ⟨⟨b,[],[]⟩,T⟩ (l.drop (qaV l).2) (qaV l).2))else none
def qe7 (s:Sc):List (List Int)->Option Sc
 |[]=>some s
 |f::fs=>match qb5 s f with
  |none=>none
  |some s'=>qe7 s' fs
theorem qgR:∀(fs gs:List (List Int)) (s:Sc),qe7 s (fs++gs)=match qe7 s fs with|none=>none|some s'=>qe7 s' gs
 |[],gs,s=>rfl
 |f::fs,gs,s=>by
  show(match qb5 s f with|none=>none|some s'=>qe7 s' (fs++gs))=match(match qb5 s f with|none=>none|some s'=>qe7 s' fs)with|none=>none|some s'=>qe7 s' gs
  cases qb5 s f with
  |none=>rfl
  |some s'=>exact qgR fs gs s'
abbrev qck (fs:List (List Int)):List Int:=(fs.map qaa).flatten
theorem qfJ:∀(fs:List (List Int)) (s s':Sc) (n a:Nat) (rest:List Int),(∀f∈fs,f.length<2^64)->qe7 s fs=some s'->fs.length<n->((qaV rest).2=0\/qb5 s' (qaV rest).1=none)->qfq n s (qck fs++rest) a=(s',a+(qck fs).length)
 |[],s,s',n+1,a,rest,_,h,_,hr=>by
  obtain rfl:=Option.some.inj h
  show(if(qaV rest).2=0 then(s,a)else match qb5 s (qaV rest).1 with
   |none=>(s,a)
   |some s'=>qfq n s' (rest.drop (qaV rest).2) (a+(qaV rest).2))=(s,a+0)
  by_cases h0:(qaV rest).2=0
  ·rw[if_pos h0];rfl
  ·rw[if_neg h0,hr.resolve_left h0];rfl
 |f::fs,s,s',n+1,a,rest,hl,h,hn,hr=>by
  have e:qck (f::fs)++rest=qaa f++(qck fs++rest):=by simp[qck]
  have hx:=qfp (qck fs++rest) (hl f (List.mem_cons_self ..))
  have hp:(qaa f).length≠0:=by have:=qbR f;omega
  rw[e,qfq,hx]
  dsimp only
  rw[if_neg hp,List.drop_left]
  have h':(match qb5 s f with|none=>none|some s'=>qe7 s' fs)=some s':=h
  cases ht:qb5 s f with
  |none=>rw[ht]at h';cases h'
  |some s1=>
   rw[ht]at h'
   dsimp only
   rw[qfJ fs s1 s' n _ rest (fun g hg=>hl g (List.mem_cons_of_mem _ hg)) h' (by simpa using hn) hr]
   refine Prod.ext rfl ?_
   show a+_+_=a+(qck (f::fs)).length
   simp[qck];omega
def frK (r:Rc):Nat->List (List Int)×Nat
 |0=>([],0)
 |i+1=>
  let p:=frK r i
  let q:List (List Int)×Nat:=if p.2<r.keys.length/\(gky r.keys p.2).after=i then(p.1++[75::qQ (gky r.keys p.2)],p.2+1)else p
  if i<r.evs.length then(q.1++[69::evI (qZ r.evs i) (ge r.evs i)],q.2)else q
theorem qhY (fs:List (List Int))(f:List Int):qck (fs++[f])=qck fs++qaa f:=by simp[qck]
theorem qiT (r:Rc):∀i,(qC r i).out=qa9 83 r.start++qck (frK r i).1/\(qC r i).k=(frK r i).2
 |0=>⟨by simp[qC,frK,qck],rfl⟩
 |i+1=>by
  obtain⟨h1,h2⟩:=qiT r i
  have hk:(qcS r i (qC r i)).out=qa9 83 r.start++qck (if(frK r i).2<r.keys.length/\(gky r.keys (frK r i).2).after=i then((frK r i).1++[75::qQ (gky r.keys (frK r i).2)],(frK r i).2+1)else frK r i).1/\(qcS r i (qC r i)).k=(if(frK r i).2<r.keys.length/\(gky r.keys (frK r i).2).after=i then((frK r i).1++[75::qQ (gky r.keys (frK r i).2)],(frK r i).2+1)else frK r i).2:=by
   unfold qcS
   rw[h2]
   split
   ·refine⟨?_,rfl⟩
    dsimp only
    rw[h1,qhY,List.append_assoc];rfl
   ·exact⟨h1,h2⟩
  show(evP r i (qcS r i (qC r i))).out=_/\(evP r i (qcS r i (qC r i))).k=_
  unfold frK evP
  dsimp only
  generalize (if(frK r i).2<r.keys.length/\(gky r.keys (frK r i).2).after=i then((frK r i).1++[75::qQ (gky r.keys (frK r i).2)],(frK r i).2+1)else frK r i)=q at hk⊢
  split
  ·refine⟨?_,hk.2⟩
   dsimp only
   rw[hk.1,qhY,List.append_assoc];rfl
  ·exact hk
structure RcOk (T0:TS)(r:Rc):Prop where
 evb:∀i,i<r.evs.length->evB (ge r.evs i)=true
 tm:∀i,i<r.evs.length->0<=qZ r.evs i/\qZ r.evs i<=(ge r.evs i).time
 ks:∀j,j<r.keys.length->(gky r.keys j).after<=r.evs.length/\(gky r.keys j).state=qN (qa3 T0 r.evs (gky r.keys j).after)
 up:∀j,j+1<r.keys.length->(gky r.keys j).after<(gky r.keys (j+1)).after
theorem qpB {l:List Ev}{i:Nat}(h:i<l.length):l.take (i+1)=l.take i++[ge l i]:=by
 rw[List.take_succ_eq_append_getElem h]
 simp[ge,List.getD,List.getElem?_eq_getElem h]
theorem take_gky {l:List Ky}{i:Nat}(h:i<l.length):l.take (i+1)=l.take i++[gky l i]:=by
 rw[List.take_succ_eq_append_getElem h]
 simp[gky,List.getD,List.getElem?_eq_getElem h]
theorem gky_take {l:List Ky}{i n:Nat}(h:i<n):gky (l.take n) i=gky l i:=by
 unfold gky
 rw[List.getD_eq_getElem?_getD,List.getElem?_take,if_pos h,<-List.getD_eq_getElem?_getD]
theorem qhZ {l:List Ev}{i:Nat}(h:i<=l.length):qae (l.take i)=qZ l i:=by
 unfold qae qZ
 rw[List.length_take,Nat.min_eq_left h]
 split
 ·rfl
 ·unfold ge
  rw[List.getD_eq_getElem?_getD,List.getElem?_take,if_pos (by omega),<-List.getD_eq_getElem?_getD]
theorem fr_ok {T0:TS}{r:Rc}(h:RcOk T0 r):∀i,i<=r.evs.length+1->qe7 ⟨⟨r.start,[],[]⟩,T0⟩ (frK r i).1=some ⟨⟨r.start,r.evs.take i,r.keys.take (frK r i).2⟩,qa3 T0 r.evs (min i r.evs.length)⟩/\
  (frK r i).2<=r.keys.length/\(∀j,j<(frK r i).2->(gky r.keys j).after<i)/\((frK r i).2<r.keys.length->i<=(gky r.keys (frK r i).2).after)
 |0,_=>⟨by simp[frK,qe7,qa3],Nat.zero_le _,fun j hj=>absurd hj (Nat.not_lt_zero j),fun _=>Nat.zero_le _⟩
 |i+1,hi=>by
  obtain⟨h1,h2,h3,h4⟩:=fr_ok h i (by omega)
  rw[Nat.min_eq_left (by omega)]at h1
  obtain⟨q,hq⟩:∃q,q=(if(frK r i).2<r.keys.length/\(gky r.keys (frK r i).2).after=i then((frK r i).1++[75::qQ (gky r.keys (frK r i).2)],(frK r i).2+1)else frK r i):=⟨_,rfl⟩
  have hk:qe7 ⟨⟨r.start,[],[]⟩,T0⟩ q.1=some ⟨⟨r.start,r.evs.take i,r.keys.take q.2⟩,qa3 T0 r.evs i⟩/\q.2<=r.keys.length/\(∀j,j<q.2->(gky r.keys j).after<i+1)/\(q.2<r.keys.length->i+1<=(gky r.keys q.2).after):=by
   by_cases hc:(frK r i).2<r.keys.length/\(gky r.keys (frK r i).2).after=i
   ·rw[if_pos hc]at hq
    subst hq
    obtain⟨_,ks⟩:=h.ks _ hc.1
    refine⟨?_,hc.1,fun j hj=>?_,fun hlt=>?_⟩
    ·dsimp only
     rw[qgR,h1]
     have hn:(r.evs.take i).length=i:=by rw[List.length_take];omega
     have ht:qb5 ⟨⟨r.start,r.evs.take i,r.keys.take (frK r i).2⟩,qa3 T0 r.evs i⟩ (75::qQ (gky r.keys (frK r i).2))=some ⟨⟨r.start,r.evs.take i,r.keys.take ((frK r i).2+1)⟩,qa3 T0 r.evs i⟩:=by
      show qpA _ _=_
      have e:gky r.keys (frK r i).2=⟨i,qN (qa3 T0 r.evs i)⟩:=by
       rw[hc.2]at ks
       cases hg:gky r.keys (frK r i).2 with
       |mk a s=>rw[hg]at ks hc;rw[show a=i from hc.2,show s=_ from ks]
      unfold qpA
      dsimp only
      have hl:(r.keys.take (frK r i).2).length=(frK r i).2:=by rw[List.length_take];omega
      have hcond:qQ ⟨i,qN (qa3 T0 r.evs i)⟩=qQ (gky r.keys (frK r i).2)/\ ¬(0<(r.keys.take (frK r i).2).length/\(gky (r.keys.take (frK r i).2) ((r.keys.take (frK r i).2).length-1)).after=i):=by
       refine⟨by rw[e],fun hh=>?_⟩
       rw[hl]at hh
       obtain⟨g1,g2⟩:=hh
       rw[gky_take (by omega)]at g2
       have:=h3 ((frK r i).2-1) (by omega)
       omega
      rw[hn,if_pos hcond,take_gky hc.1,e]
     show(match qb5 _ _ with|none=>none|some s'=>qe7 s' [])=_
     rw[ht];rfl
    ·dsimp only at hj
     rcases Nat.lt_or_ge j (frK r i).2 with hj'|hj'
     ·have:=h3 j hj';omega
     ·rw[show j=(frK r i).2 by omega,hc.2];omega
    ·dsimp only at hlt⊢
     have:=h.up _ hlt
     omega
   ·rw[if_neg hc]at hq
    subst hq
    refine⟨h1,h2,fun j hj=>by have:=h3 j hj;omega,fun hlt=>?_⟩
    have:=h4 hlt
    have:(gky r.keys (frK r i).2).after≠i:=fun e=>hc ⟨hlt,e⟩
    omega
  unfold frK
  dsimp only
  rw[<-hq]
  by_cases hl:i<r.evs.length
  ·rw[if_pos hl]
   obtain⟨k1,k2,k3,k4⟩:=hk
   refine⟨?_,k2,k3,k4⟩
   dsimp only
   rw[qgR,k1,Nat.min_eq_left (by omega)]
   have ht:qb5 ⟨⟨r.start,r.evs.take i,r.keys.take q.2⟩,qa3 T0 r.evs i⟩ (69::evI (qZ r.evs i) (ge r.evs i))=some ⟨⟨r.start,r.evs.take (i+1),r.keys.take q.2⟩,qa3 T0 r.evs (i+1)⟩:=by
    show qiS _ _=_
    unfold qiS
    dsimp only
    rw[qhZ (by omega)]
    have:=evR_put [] (h.evb i hl) (h.tm i hl)
    rw[List.append_nil]at this
    rw[this,qpB hl]
    rfl
   show(match qb5 _ _ with|none=>none|some s'=>qe7 s' [])=_
   rw[ht];rfl
  ·rw[if_neg hl]
   obtain⟨k1,k2,k3,k4⟩:=hk
   refine⟨?_,k2,k3,k4⟩
   have hi':i=r.evs.length:=by omega
   subst hi'
   rw[k1,Nat.min_eq_right (Nat.le_succ _),List.take_of_length_le (Nat.le_refl _),List.take_of_length_le (Nat.le_succ _)]
theorem fr_all {T0:TS}{r:Rc}(h:RcOk T0 r):qe7 ⟨⟨r.start,[],[]⟩,T0⟩ (frK r (r.evs.length+1)).1=some ⟨r,qa3 T0 r.evs r.evs.length⟩:=by
 obtain⟨h1,h2,h3,h4⟩:=fr_ok h (r.evs.length+1) (Nat.le_refl _)
 have hk:(frK r (r.evs.length+1)).2=r.keys.length:=by
  rcases Nat.lt_or_ge (frK r (r.evs.length+1)).2 r.keys.length with hl|hl
  ·have:=h4 hl
   have:=(h.ks _ hl).1
   omega
  ·omega
 rw[h1,hk,List.take_of_length_le (by omega),List.take_of_length_le (by omega),Nat.min_eq_right (by omega)]
theorem qko:∀fs:List (List Int),5*fs.length<=(qck fs).length
 |[]=>Nat.le_refl _
 |f::fs=>by
  have h1:=qko fs
  have h2:=qbR f
  have h3:=qeU f.length
  have e:qck (f::fs)=qaa f++qck fs:=by simp[qck]
  rw[e,List.length_append,List.length_cons];omega
theorem qmh {dec:List Int->Option TS}{T0:TS}{r:Rc}(h:RcOk T0 r)(hd:dec r.start=some T0)(hs:r.start.length+1<2^64)(hl:∀f∈(frK r (r.evs.length+1)).1,f.length<2^64)(rest:List Int)(hr:(qaV rest).2=0\/qb5 ⟨r,qa3 T0 r.evs r.evs.length⟩ (qaV rest).1=none):
  qfr dec ((qI r).out++rest)=some (⟨r,qa3 T0 r.evs r.evs.length⟩,(qI r).out.length):=by
 have hp:=(qiT r (r.evs.length+1)).1
 have e:(qI r).out++rest=qaa (83::r.start)++(qck (frK r (r.evs.length+1)).1++rest):=by rw[hp,List.append_assoc];rfl
 have hx:=qfp (qck (frK r (r.evs.length+1)).1++rest) (show(83::r.start).length<2^64 by simpa using hs)
 have hn:(qaa (83::r.start)).length≠0:=by have:=qbR (83::r.start);omega
 have h5:=qko (frK r (r.evs.length+1)).1
 have hf:=qfJ (frK r (r.evs.length+1)).1 ⟨⟨r.start,[],[]⟩,T0⟩ _ ((qI r).out++rest).length (qaa (83::r.start)).length rest hl (fr_all h) (by rw[e,List.length_append,List.length_append];omega) hr
 unfold qfr
 rw[e,hx]
 dsimp only
 rw[if_neg hn,if_pos rfl,hd]
 dsimp only
 rw[List.drop_left,<-e,hf]
 congr 2
 rw[hp]
 show _+_=(qaa (83::r.start)++_).length
 rw[List.length_append]
abbrev tEv:TypeId:=66
abbrev qgS:TypeId:=51
def evsV (l:List Ev):List Value:=l.flatMap Ev.vals
def qaL (kx:Nat->Option Addr×Nat×Nat):List Ky->Nat->List Value
 |[],_=>[]
 |k::l,i=> .int .i64 k.after:: .slice (kx i).1 (kx i).2.1 (kx i).2.2::qaL kx l (i+1)
theorem evsV_len (l:List Ev):(evsV l).length=l.length*5:=by
 induction l with
 |nil=>rfl
 |cons e l ih=>rw[evsV,List.flatMap_cons,List.length_append];have:(l.flatMap Ev.vals).length=l.length*5:=ih;rw[this,List.length_cons];show 5+_=_;omega
theorem qd3 (l:List Ev)(e:Ev):evsV (l++[e])=evsV l++e.vals:=by simp[evsV]
theorem qiU:∀(l:List Ev) (i c:Nat),i<l.length->c<5->(evsV l)[i*5+c]? =(ge l i).vals[c]?
 |e::l,0,c,_,hc=>by
  rw[evsV,List.flatMap_cons,List.getElem?_append_left (by show 0*5+c<5;omega),Nat.zero_mul,Nat.zero_add];rfl
 |e::l,i+1,c,hi,hc=>by
  have ih:=qiU l i c (by simpa using hi) hc
  rw[evsV,List.flatMap_cons,List.getElem?_append_right (by show 5<=_;omega),show(i+1)*5+c-e.vals.length=i*5+c by show _-5=_;omega]
  exact ih
theorem qkp (kx:Nat->Option Addr×Nat×Nat):∀(l:List Ky) (i:Nat),(qaL kx l i).length=l.length*2
 |[],_=>rfl
 |k::l,i=>by rw[qaL,List.length_cons,List.length_cons,qkp kx l (i+1),List.length_cons];omega
theorem qgT (kx:Nat->Option Addr×Nat×Nat):∀(l:List Ky) (j i:Nat),i<l.length->(qaL kx l j)[i*2]? =some (.int .i64 (gky l i).after)/\(qaL kx l j)[i*2+1]? =some (.slice (kx (j+i)).1 (kx (j+i)).2.1 (kx (j+i)).2.2)
 |k::l,j,0,_=>⟨rfl,rfl⟩
 |k::l,j,i+1,hi=>by
  obtain⟨h1,h2⟩:=qgT kx l (j+1) i (by simpa using hi)
  rw[show j+(i+1)=j+1+i by omega,show(i+1)*2+1=i*2+1+1+1 by omega,show(i+1)*2=i*2+1+1 by omega]
  exact⟨h1,h2⟩
theorem qgU (kx:Nat->Option Addr×Nat×Nat)(k:Ky):∀(l:List Ky) (i:Nat),qaL kx (l++[k]) i=qaL kx l i++[.int .i64 k.after,.slice (kx (i+l.length)).1 (kx (i+l.length)).2.1 (kx (i+l.length)).2.2]
 |[],i=>rfl
 |q::l,i=>by
  show _::_::qaL kx (l++[k]) (i+1)=_
  rw[qgU kx k l (i+1),show i+1+l.length=i+(q::l).length by simp;omega];rfl
theorem qgV {kx ky:Nat->Option Addr×Nat×Nat}:∀(l:List Ky) (i:Nat),(∀j,j<l.length->kx (i+j)=ky (i+j))->qaL kx l i=qaL ky l i
 |[],_,_=>rfl
 |k::l,i,h=>by
  have h0:=h 0 (Nat.zero_lt_succ _)
  have ih:=qgV (kx:=kx) (ky:=ky) l (i+1) fun j hj=>by
   have:=h (j+1) (by simpa using hj)
   rw[show i+1+j=i+(j+1) by omega];exact this
  rw[Nat.add_zero]at h0
  rw[qaL,qaL,ih,h0]
structure RcRd (w:World)(b:Nat)(sa:Option Addr)(sn sc:Nat)(eo:Option Nat)(ec:Nat)(ko:Option Nat)(kc:Nat)(kx:Nat->Option Addr×Nat×Nat)(r:Rc):Prop where
 c0:w.cell? ⟨b,0,none⟩=some (.slice sa sn sc)
 c1:w.cell? ⟨b,1,none⟩=some (.slice (eo.map at0) r.evs.length ec)
 c2:w.cell? ⟨b,2,none⟩=some (.slice (ko.map at0) r.keys.length kc)
 st:Rd w sa (u8s r.start)
 sl:r.start.length=sn
 sz:sa=none->sc=0
 ev:Rd w (eo.map at0) (evsV r.evs)
 ks:Rd w (ko.map at0) (qaL kx r.keys 0)
 en:r.evs.length<=10000000/\r.keys.length<=10000000
 kr:∀i,i<r.keys.length->Rd w (kx i).1 (u8s (gky r.keys i).state)/\(gky r.keys i).state.length=(kx i).2.1/\((kx i).1=none->(kx i).2.2=0)
section
variable {w w':World}{b:Nat}{sa:Option Addr}{sn sc:Nat}{eo:Option Nat}{ec:Nat}{ko:Option Nat}{kc:Nat}{kx:Nat->Option Addr×Nat×Nat}{r:Rc}
theorem RcRd.ch (h:RcRd w b sa sn sc eo ec ko kc kx r)(hc:Ch (fun _=>False) w w'):RcRd w' b sa sn sc eo ec ko kc kx r:=
 ⟨qg hc h.c0 fun h=>h,qg hc h.c1 fun h=>h,qg hc h.c2 fun h=>h,h.st.ch hc fun _ _ h=>h,h.sl,h.sz,h.ev.ch hc fun _ _ h=>h,h.ks.ch hc fun _ _ h=>h,h.en,fun i hi=>⟨(h.kr i hi).1.ch hc fun _ _ h=>h,(h.kr i hi).2⟩⟩
theorem RcRd.eb (h:RcRd w b sa sn sc eo ec ko kc kx r)(hl:0<r.evs.length):∃eb,eo=some eb:=by
 cases he:eo with
 |some eb=>exact⟨eb,rfl⟩
 |none=>
  have:=h.ev.1 (by rw[he];rfl)
  have:=congrArg List.length this
  rw[evsV_len]at this
  simp at this;omega
theorem RcRd.kb (h:RcRd w b sa sn sc eo ec ko kc kx r)(hl:0<r.keys.length):∃kb,ko=some kb:=by
 cases he:ko with
 |some eb=>exact⟨eb,rfl⟩
 |none=>
  have:=h.ks.1 (by rw[he];rfl)
  have:=congrArg List.length this
  rw[qkp]at this
  simp at this;omega
theorem RcRd.evc {eb:Nat}(h:RcRd w b sa sn sc (some eb) ec ko kc kx r){i:Nat}(hi:i<r.evs.length)(c:Nat)(v:Value)(hv:(ge r.evs i).vals[c]? =some v)(hc:c<5):w.cell? ⟨eb,i*5+c,none⟩=some v:=by
 have:=h.ev.2 ⟨eb,0,none⟩ rfl (i*5+c) v ((qiU _ _ _ hi hc).trans hv)
 rw[qb7,Nat.zero_add]at this
 exact this
theorem RcRd.kyc {kb:Nat}(h:RcRd w b sa sn sc eo ec (some kb) kc kx r){i:Nat}(hi:i<r.keys.length):w.cell? ⟨kb,i*2,none⟩=some (.int .i64 (gky r.keys i).after)/\w.cell? ⟨kb,i*2+1,none⟩=some (.slice (kx i).1 (kx i).2.1 (kx i).2.2):=by
 obtain⟨h1,h2⟩:=qgT kx r.keys 0 i hi
 rw[Nat.zero_add]at h2
 have a1:=h.ks.2 ⟨kb,0,none⟩ rfl _ _ h1
 have a2:=h.ks.2 ⟨kb,0,none⟩ rfl _ _ h2
 rw[qb7,Nat.zero_add]at a1 a2
 exact⟨a1,a2⟩
theorem RcRd.evx {eb:Nat}(h:RcRd w b sa sn sc (some eb) ec ko kc kx r){x:Int}{i:Nat}(hx:x.toNat=i)(hi:i<r.evs.length)(c:Nat)(v:Value)(hv:(ge r.evs i).vals[c]? =some v)(hc:c<5):w.cell? ⟨eb,0+x.toNat*5+c,none⟩=some v:=by
 rw[hx,Nat.zero_add]
 exact h.evc hi c v hv hc
theorem RcRd.kyx {kb:Nat}(h:RcRd w b sa sn sc eo ec (some kb) kc kx r){x:Int}{i:Nat}(hx:x.toNat=i)(hi:i<r.keys.length):w.cell? ⟨kb,0+x.toNat*2,none⟩=some (.int .i64 (gky r.keys i).after)/\w.cell? ⟨kb,0+x.toNat*2+1,none⟩=some (.slice (kx i).1 (kx i).2.1 (kx i).2.2):=by
 rw[hx,Nat.zero_add]
 exact h.kyc hi
end
structure RcB (r:Rc):Prop where
 st:qaA r.start/\r.start.length<=1000000
 ks:∀j,j<r.keys.length->qaA (gky r.keys j).state/\(gky r.keys j).state.length<=1000000/\(gky r.keys j).after<=100000000
 ev:∀i,i<r.evs.length->evB (ge r.evs i)=true/\0<=qZ r.evs i/\qZ r.evs i<=(ge r.evs i).time
 ln:∀i,(qC r i).out.length<=100000000
theorem qaq (c:Int)(l:List Int):(qa9 c l).length<=l.length+15:=by
 have h1:=qbR (c::l)
 have h2:=qX (c::l).length
 unfold qa9
 rw[h1,List.length_cons]
 rw[List.length_cons]at h2
 omega
theorem qdO (k:Ky):(qQ k).length<=k.state.length+10:=by
 have:=qX k.after
 unfold qQ
 rw[List.length_append];omega
theorem pl_k (r:Rc):∀i,(qC r i).pos.length=(qC r i).k/\(qC r i).k<=i
 |0=>⟨rfl,Nat.le_refl _⟩
 |i+1=>by
  obtain⟨h1,h2⟩:=pl_k r i
  have e:(evP r i (qcS r i (qC r i))).pos=(qcS r i (qC r i)).pos/\(evP r i (qcS r i (qC r i))).k=(qcS r i (qC r i)).k:=by unfold evP;split<;>exact⟨rfl,rfl⟩
  show(evP r i (qcS r i (qC r i))).pos.length=(evP r i (qcS r i (qC r i))).k/\(evP r i (qcS r i (qC r i))).k<=i+1
  rw[e.1,e.2]
  unfold qcS
  split
  ·dsimp only;rw[List.length_append,h1];exact⟨rfl,by omega⟩
  ·exact⟨h1,by omega⟩
theorem pl_a (r:Rc):∀i,i<=r.evs.length+1->(qC r i).k<=r.keys.length/\ ∀j,j<(qC r i).k->(gky r.keys j).after<=r.evs.length
 |0,_=>⟨Nat.zero_le _,fun j h=>absurd h (Nat.not_lt_zero j)⟩
 |i+1,hi=>by
  obtain⟨h1,h2⟩:=pl_a r i (by omega)
  have e:(evP r i (qcS r i (qC r i))).k=(qcS r i (qC r i)).k:=by unfold evP;split<;>rfl
  show(evP r i (qcS r i (qC r i))).k<=r.keys.length/\ ∀j,j<(evP r i (qcS r i (qC r i))).k->_
  rw[e]
  unfold qcS
  split
  ·rename_i hh
   refine⟨hh.1,fun j hj=>?_⟩
   dsimp only at hj
   rcases Nat.lt_or_ge j (qC r i).k with h|h
   ·exact h2 j h
   ·rw[show j=(qC r i).k by omega,hh.2];omega
  ·exact⟨h1,h2⟩
theorem pl_p {r:Rc}(hW:RcB r):∀i,∀x∈(qC r i).pos,0<=x/\x<=100000000
 |0,x,h=>by cases h
 |i+1,x,h=>by
  have ih:=pl_p hW i
  have hl:=hW.ln i
  have e:(evP r i (qcS r i (qC r i))).pos=(qcS r i (qC r i)).pos:=by unfold evP;split<;>rfl
  have h:x∈(evP r i (qcS r i (qC r i))).pos:=h
  rw[e]at h
  unfold qcS at h
  split at h
  ·rcases List.mem_append.1 h with h|h
   ·exact ih x h
   ·rw[List.mem_singleton]at h;omega
  ·exact ih x h
theorem qgW (r:Rc)(ps:List Int):∀j,(qha r ps j).length<=10+30*j
 |0=>qX _
 |j+1=>by
  have ih:=qgW r ps j
  have h1:=qX (gky r.keys j).after
  have h2:=qX (qZ r.evs (gky r.keys j).after).toNat
  have h3:=qX (ps.getD j 0).toNat
  show(qha r ps j++_).length<=_
  rw[List.length_append,List.length_append,List.length_append];omega
theorem qiV {r:Rc}(hW:RcB r){ps:List Int}(hp:∀x∈ps,0<=x/\x<=100000000)(hl:ps.length<=r.keys.length)(hk:r.keys.length<=10000000)(ht:∀j,j<ps.length->(gky r.keys j).after<=r.evs.length/\qZ r.evs (gky r.keys j).after<=4611686018427387904):∀j,j<=ps.length->qaA (qha r ps j)
 |0,_=>qo (by omega)
 |j+1,hj=>by
  have ih:=qiV hW hp hl hk ht j (by omega)
  have h1:=(hW.ks j (by omega)).2.2
  have h2:=(ht j (by omega)).2
  have h3:=hp _ (qd2 (l:=ps) (k:=j) (by omega))
  exact qj ih (qj (qo (by omega)) (qj (qo (by omega)) (qo (by omega))))
theorem RcB.tm {r:Rc}(hW:RcB r){n:Nat}(hn:n<=r.evs.length):0<=qZ r.evs n/\qZ r.evs n<=4611686018427387904:=by
 unfold qZ
 split
 ·decide
 ·have:=(qgI (hW.ev (n-1) (by omega)).1).1.1
  omega
theorem idx_next (r:Rc)(ps:List Int)(j:Nat):qha r ps j++qad [(((gky r.keys j).after:Nat):Int),qZ r.evs (gky r.keys j).after,ps.getD j 0]=qha r ps (j+1):=by simp[qha,qad]
theorem idx_zero {ps:List Int}{m:Nat}(r:Rc)(h:ps.length=m):qad [((m:Nat):Int)]=qha r ps 0:=by simp[qha,qad,h]
theorem qgX (r:Rc)(n:Int)(ps:List Int):(qcu r n ps).length<=100+30*ps.length:=by
 have h1:=qgW r ps ps.length
 have h2:=qaq 73 (qha r ps ps.length)
 unfold qcu
 rw[List.length_append]
 have h3:=qaq 70 [IntKind.wrap .u8 n,IntKind.wrap .u8 (Int.fdiv n (2^8)),IntKind.wrap .u8 (Int.fdiv n (2^16)),IntKind.wrap .u8 (Int.fdiv n (2^24))]
 rw[show([IntKind.wrap .u8 n,IntKind.wrap .u8 (Int.fdiv n (2^8)),IntKind.wrap .u8 (Int.fdiv n (2^16)),IntKind.wrap .u8 (Int.fdiv n (2^24))]:List Int).length=4 from rfl]at h3
 omega
theorem qfs {r:Rc}{i:Nat}{p q s:Pl}(hp:qC r i=p)(hq:qcS r i p=q)(hs:evP r i q=s):qC r (i+1)=s:=by subst hp hq hs;rfl
theorem qpC {r:Rc}{i k:Nat}{xs ps:List Int}(h:k<r.keys.length)(ha:(((gky r.keys k).after:Nat):Int)=(i:Int)):qcS r i ⟨xs,ps,k⟩=⟨xs++qa9 75 (qQ (gky r.keys k)),ps++[((xs.length:Nat):Int)],k+1⟩:=if_pos ⟨h,Int.ofNat_inj.1 ha⟩
theorem qmi {r:Rc}{i k:Nat}{xs ps:List Int}(h:¬(k<r.keys.length/\(((gky r.keys k).after:Nat):Int)=(i:Int))):qcS r i ⟨xs,ps,k⟩=⟨xs,ps,k⟩:=if_neg fun hh=>h ⟨hh.1,Int.ofNat_inj.2 hh.2⟩
theorem qpD {r:Rc}{i k:Nat}{xs ps:List Int}(h:i<r.evs.length):evP r i ⟨xs,ps,k⟩=⟨xs++qa9 69 (evI (qZ r.evs i) (ge r.evs i)),ps,k⟩:=if_pos h
theorem ev_no {r:Rc}{i k:Nat}{xs ps:List Int}(h:¬i<r.evs.length):evP r i ⟨xs,ps,k⟩=⟨xs,ps,k⟩:=if_neg h
def roA (L:List (Option Addr×List Int)):Asn:=
 ⟨fun w F=> ∀p∈L,Rd w p.1 (u8s p.2)/\ ∀ad,p.1=some ad->F ad.block,fun h hc hn p hp=>⟨(h p hp).1.ch hc fun ad e=>hn _ ((h p hp).2 ad e),(h p hp).2⟩,fun h hF _ p hp=>⟨(h p hp).1,fun ad e=>hF _ ((h p hp).2 ad e)⟩⟩
section
variable {w0 w w':World}{F0:Nat->Prop}{l m:List Asn}{L:List (Option Addr×List Int)}{i j:Nat}{o:Option Nat}{n c:Nat}{x:List Value}
theorem Sep.ro (h:Sep w0 F0 w l)(i:Nat)(hi:l[i]? =some (roA L):=by rfl):∀p∈L,Rd w p.1 (u8s p.2):=by
 obtain⟨F,h1,_⟩:=h.at hi
 exact fun p hp=>(h1 p hp).1
theorem Sep.neA {o':Option Nat}{e e':TypeId}{sz sz' n' c':Nat}{x':List Value}(h:Sep w0 F0 w l)(i j:Nat)(hij:i≠j:=by decide)(hi:l[i]? =some (qaz e sz o n c x):=by rfl)(hj:l[j]? =some (qaz e' sz' o' n' c' x'):=by rfl):∀ad,o'.map at0=some ad-> ¬o=some ad.block:=fun ad ha hb=>by
 obtain⟨F,h1,h2,h3⟩:=h.ex
 cases o' with
 |none=>cases ha
 |some q=>
  obtain rfl:=Option.some.inj ha
  exact h2 i j hij _ ((h1 i _ hi).2 _ hb) ((h1 j _ hj).2 q rfl)
theorem Sep.boxO {b:Nat}{x:List Value}{t:TypeId}(h:Sep w0 F0 w l)(i n:Nat)(hi:l[i]? =some (qbr b x t):=by rfl)(hn:x.length=n*1:=by rfl)(hm:n<=maxLen:=by simp only[maxLen];omega):Sep w0 F0 w (l.set i (qaz t 1 (some b) n n x)):=by
 obtain⟨_,h⟩:=h.ref (B:=fun _:Unit=>qaz t 1 (some b) n n x) hi fun _ hA=>⟨(),Own.blk hA.1 hn hm,fun y e=>by obtain rfl:=Option.some.inj e;exact hA.2⟩
 exact h
theorem Sep.join (h:Sep w0 F0 w l)(h':Sep w (fun _=>False) w' m):Sep w0 F0 w' (l++m):=by
 obtain⟨F,h1,h2,h3⟩:=h.ex
 obtain⟨G,k1,k2,k3⟩:=h'.ex
 have hz:=h'.ch.size
 have hz0:=h.ch.size
 refine Sep.of (h.ch.trans h'.ch fun _ _ h=>h.elim) (fun i b=>if i<l.length then F i b else G (i-l.length) b) (fun i A e=>?_) (fun i j hij b hb hb'=>?_) fun i b hb=>?_
 ·rcases Nat.lt_or_ge i l.length with hi|hi
  ·rw[List.getElem?_append_left hi]at e
   exact Asn.to (A.ch (h1 i A e) h'.ch fun _ _ h=>h) fun b=>by rw[if_pos hi]
  ·rw[List.getElem?_append_right hi]at e
   exact Asn.to (k1 _ A e) fun b=>by rw[if_neg (by omega)]
 ·by_cases hi:i<l.length
  ·rw[if_pos hi]at hb
   have hlt:=(h3 i b hb).2
   by_cases hj:j<l.length
   ·rw[if_pos hj]at hb';exact h2 i j hij b hb hb'
   ·rw[if_neg hj]at hb';have:=(k3 _ b hb').1.resolve_left fun h=>h;omega
  ·rw[if_neg hi]at hb
   have hlt:=(k3 _ b hb).1.resolve_left fun h=>h
   by_cases hj:j<l.length
   ·rw[if_pos hj]at hb';have:=(h3 j b hb').2;omega
   ·rw[if_neg hj]at hb';exact k2 _ _ (by omega) b hb hb'
 ·split at hb
  ·have:=h3 i b hb;exact⟨this.1,by omega⟩
  ·have:=k3 _ b hb;exact⟨.inr (by have:=this.1.resolve_left fun h=>h;omega),this.2⟩
theorem Sep.toRo (h:Sep w0 F0 w l)(i j:Nat)(a:Option Addr)(y:List Int)(hk:Own w tU8 1 o n c x->Rd w a (u8s y)/\ ∀ad,a=some ad->o=some ad.block)(hij:i≠j:=by decide)(hi:l[i]? =some (roA L):=by rfl)(hj:l[j]? =some (qaz tU8 1 o n c x):=by rfl):Sep w0 F0 w ((l.set i (roA (L++[(a,y)]))).set j nilA):=by
 obtain⟨F,h1,h2,h3⟩:=h.ex
 have hli:i<l.length:=(List.getElem?_eq_some_iff.1 hi).1
 have hlj:j<l.length:=(List.getElem?_eq_some_iff.1 hj).1
 obtain⟨hO,hF⟩:=h1 j _ hj
 obtain⟨hr,hb⟩:=hk hO
 refine Sep.of h.ch (fun q b=>if q=i then F i b\/F j b else q≠j/\F q b) (fun q A e=>?_) (fun p q hpq b hb hb'=>?_) fun q b hb=>?_
 ·by_cases hqj:q=j
  ·subst hqj
   rw[List.getElem?_set_self (by rw[List.length_set];exact hlj)]at e
   obtain rfl:=Option.some.inj e
   exact trivial
  ·rw[List.getElem?_set_ne (fun h=>hqj h.symm)]at e
   by_cases hqi:q=i
   ·subst hqi
    rw[List.getElem?_set_self hli]at e
    obtain rfl:=Option.some.inj e
    intro p hp
    rcases List.mem_append.1 hp with hp|hp
    ·obtain⟨g1,g2⟩:=h1 q _ hi p hp
     exact⟨g1,fun ad e=>by(show if q=q then _ else _);rw[if_pos rfl];exact .inl (g2 ad e)⟩
    ·rw[List.mem_singleton]at hp
     subst hp
     exact⟨hr,fun ad e=>by(show if q=q then _ else _);rw[if_pos rfl];exact .inr (hF _ (hb ad e))⟩
   ·rw[List.getElem?_set_ne (fun h=>hqi h.symm)]at e
    exact Asn.to (h1 q A e) fun b=>by rw[if_neg hqi];exact⟨fun h=>⟨hqj,h⟩,fun h=>h.2⟩
 ·split at hb
  ·rename_i hp
   rw[if_neg (fun h=>hpq (hp.trans h.symm))]at hb'
   rcases hb with hb|hb
   ·exact h2 i q (fun h=>hpq (hp.trans h)) b hb hb'.2
   ·exact h2 j q (fun h=>hb'.1 h.symm) b hb hb'.2
  ·rename_i hp
   split at hb'
   ·rcases hb' with hb'|hb'
    ·exact h2 p i hp b hb.2 hb'
    ·exact h2 p j hb.1 b hb.2 hb'
   ·exact h2 p q hpq b hb.2 hb'.2
 ·split at hb
  ·rcases hb with hb|hb
   ·exact h3 i b hb
   ·exact h3 j b hb
  ·exact h3 q b hb.2
end
def qdT (p:Prop):Asn:=⟨fun _ _=>p,fun h _ _=>h,fun h _ _=>h⟩
abbrev qfQ:TypeId:=104
structure ScX where
 sa:Option Addr
 sn:Nat
 sc:Nat
 eo:Option Nat
 ec:Nat
 ko:Option Nat
 kc:Nat
 kx:Nat->Option Addr×Nat×Nat
 t:Nat
def roL (x:ScX)(r:Rc):List (Option Addr×List Int):=(x.sa,r.start)::(List.range r.keys.length).map fun i=>((x.kx i).1,(gky r.keys i).state)
structure ScOk (x:ScX)(r:Rc):Prop where
 sl:r.start.length=x.sn
 sz:x.sa=none->x.sc=0
 kl:∀i,i<r.keys.length->(gky r.keys i).state.length=(x.kx i).2.1/\((x.kx i).1=none->(x.kx i).2.2=0)
 en:r.evs.length<=10000000/\r.keys.length<=10000000
def recC (x:ScX)(r:Rc)(tl:List Value):List Value:= .slice x.sa x.sn x.sc:: .slice (x.eo.map at0) r.evs.length x.ec:: .slice (x.ko.map at0) r.keys.length x.kc::tl
def recL (b:Nat)(r:Rc)(x:ScX)(tl:List Value)(T:TypeId):List Asn:=
 [qbr b (recC x r tl) T,qaz tEv 5 x.eo r.evs.length x.ec (evsV r.evs),qaz qgS 2 x.ko r.keys.length x.kc (qaL x.kx r.keys 0),roA (roL x r),qdT (ScOk x r)]
def scanL (b:Nat)(s:Sc)(x:ScX):List Asn:=recL b s.r x [.pointer (some ⟨x.t,0,none⟩)] qfQ++[qav x.t s.T]
abbrev qe8 (b:Nat)(s:Sc):Asn:=qjC (scanL b s)
section
variable {w0 w w':World}{F0:Nat->Prop}{l m:List Asn}{b:Nat}{r:Rc}{x:ScX}{tl:List Value}{T:TypeId}
theorem Sep.pure {p:Prop}(h:Sep w0 F0 w l)(i:Nat)(hi:l[i]? =some (qdT p):=by rfl):p:=by
 obtain⟨F,h1,_⟩:=h.at hi
 exact h1
theorem Sep.rc (h:Sep w0 F0 w l)(h0:l[0]? =some (qbr b (recC x r tl) T):=by rfl)(h1:l[1]? =some (qaz tEv 5 x.eo r.evs.length x.ec (evsV r.evs)):=by rfl)(h2:l[2]? =some (qaz qgS 2 x.ko r.keys.length x.kc (qaL x.kx r.keys 0)):=by rfl)(h3:l[3]? =some (roA (roL x r)):=by rfl)(h4:l[4]? =some (qdT (ScOk x r)):=by rfl):RcRd w b x.sa x.sn x.sc x.eo x.ec x.ko x.kc x.kx r:=by
 have hp:=h.pure 4 h4
 have hr:=h.ro 3 h3
 have hb:=h.b 0 h0
 refine⟨hb.c 0 rfl,hb.c 1 rfl,hb.c 2 rfl,hr (x.sa,r.start) (List.mem_cons_self ..),hp.sl,hp.sz,(h.own 1 h1).rd,(h.own 2 h2).rd,hp.en,fun i hi=>⟨hr ((x.kx i).1,(gky r.keys i).state) (List.mem_cons_of_mem _ (List.mem_map.2 ⟨i,List.mem_range.2 hi,rfl⟩)),hp.kl i hi⟩⟩
theorem Sep.scan {sa:Option Addr}{sn sc ec kc n m t:Nat}{eo ko:Option Nat}{start:List Int}{evs:List Ev}{keys:List Ky}{ks:List Value}{L:List (Option Addr×List Int)}{U:TS}(kx:Nat->Option Addr×Nat×Nat)
  (h:Sep w0 F0 w [qbr b [.slice sa sn sc,.slice (eo.map at0) n ec,.slice (ko.map at0) m kc,.pointer (some ⟨t,0,none⟩)] qfQ,qaz tEv 5 eo n ec (evsV evs),qaz qgS 2 ko m kc ks,roA L,qav t U])
  (hn:evs.length=n) (hm:keys.length=m) (hks:ks=qaL kx keys 0) (hL:L=roL ⟨sa,sn,sc,eo,ec,ko,kc,kx,t⟩ ⟨start,evs,keys⟩) (hok:ScOk ⟨sa,sn,sc,eo,ec,ko,kc,kx,t⟩ ⟨start,evs,keys⟩):Sep w0 F0 w [qe8 b ⟨⟨start,evs,keys⟩,U⟩]:=by
 subst hn hm hks hL
 refine Sep.pack (l:=[]) (L:=scanL b ⟨⟨start,evs,keys⟩,U⟩) ⟨sa,sn,sc,eo,ec,ko,kc,kx,t⟩ ?_
 have h':Sep w0 F0 w [qbr b [.slice sa sn sc,.slice (eo.map at0) evs.length ec,.slice (ko.map at0) keys.length kc,.pointer (some ⟨t,0,none⟩)] qfQ,qaz tEv 5 eo evs.length ec (evsV evs),qaz qgS 2 ko keys.length kc (qaL kx keys 0),roA (roL ⟨sa,sn,sc,eo,ec,ko,kc,kx,t⟩ ⟨start,evs,keys⟩),qdT (ScOk ⟨sa,sn,sc,eo,ec,ko,kc,kx,t⟩ ⟨start,evs,keys⟩),qav t U]:=by
  obtain⟨F,h1,h2,h3⟩:=h.ex
  refine Sep.of h.ch (fun i b=>if i=5 then F 4 b else i<4/\F i b) (fun i A e=>?_) (fun i j hij b hb hb'=>?_) fun i b hb=>?_
  ·match i,e with
   |0,e=>exact Asn.to (h1 0 A e) fun b=>⟨fun h=>⟨by decide,h⟩,fun h=>h.2⟩
   |1,e=>exact Asn.to (h1 1 A e) fun b=>⟨fun h=>⟨by decide,h⟩,fun h=>h.2⟩
   |2,e=>exact Asn.to (h1 2 A e) fun b=>⟨fun h=>⟨by decide,h⟩,fun h=>h.2⟩
   |3,e=>exact Asn.to (h1 3 A e) fun b=>⟨fun h=>⟨by decide,h⟩,fun h=>h.2⟩
   |4,e=>obtain rfl:=Option.some.inj e;exact hok
   |5,e=>exact Asn.to (h1 4 A e) fun b=>by rw[if_pos rfl]
   |i+6,e=>simp at e
  ·split at hb
   ·rename_i hi
    rw[if_neg (fun h=>hij (hi.trans h.symm))]at hb'
    exact h2 4 j (by omega) b hb hb'.2
   ·split at hb'
    ·exact h2 i 4 (by omega) b hb.2 hb'
    ·exact h2 i j hij b hb.2 hb'.2
  ·split at hb
   ·exact h3 4 b hb
   ·exact h3 i b hb.2
 exact h'
def kxS (kx:Nat->Option Addr×Nat×Nat)(n:Nat)(v:Option Addr×Nat×Nat):Nat->Option Addr×Nat×Nat:=fun i=>if i=n then v else kx i
theorem qft {kx:Nat->Option Addr×Nat×Nat}{l:List Ky}{k:Ky}{v:Option Addr×Nat×Nat}:qaL kx l 0++[.int .i64 k.after,.slice v.1 v.2.1 v.2.2]=qaL (kxS kx l.length v) (l++[k]) 0:=by
 rw[qgU,Nat.zero_add,show kxS kx l.length v l.length=v from if_pos rfl]
 rw[qgV (kx:=kxS kx l.length v) (ky:=kx) l 0 fun j hj=>by rw[Nat.zero_add];exact if_neg (by omega)]
theorem qiW {x x':ScX}{r r':Rc}{k:Ky}{v:Option Addr×Nat×Nat}(h1:x'.sa=x.sa)(h2:r'.start=r.start)(h3:r'.keys=r.keys++[k])(h4:x'.kx=kxS x.kx r.keys.length v):roL x r++[(v.1,k.state)]=roL x' r':=by
 unfold roL
 rw[h1,h2,h3,h4,List.length_append,List.length_singleton,List.range_succ,List.map_append,List.cons_append]
 have e1:(List.range r.keys.length).map (fun i=>((kxS x.kx r.keys.length v i).1,(gky (r.keys++[k]) i).state))=(List.range r.keys.length).map fun i=>((x.kx i).1,(gky r.keys i).state):=List.map_congr_left fun i hi=>by
  have:=List.mem_range.1 hi
  rw[show kxS x.kx r.keys.length v i=x.kx i from if_neg (by omega)]
  unfold gky
  rw[List.getD_eq_getElem?_getD,List.getElem?_append_left this,<-List.getD_eq_getElem?_getD]
 rw[e1]
 have e2:kxS x.kx r.keys.length v r.keys.length=v:=if_pos rfl
 have e3:gky (r.keys++[k]) r.keys.length=k:=by simp[gky]
 simp only[List.map_cons,List.map_nil,e2,e3]
theorem qgY {x x':ScX}{r r':Rc}{k:Ky}{v:Option Addr×Nat×Nat}(h:ScOk x r)(h0:x'.sa=x.sa/\x'.sn=x.sn/\x'.sc=x.sc)(h2:r'.start=r.start)(h3:r'.keys=r.keys++[k])(h4:x'.kx=kxS x.kx r.keys.length v)(h5:k.state.length=v.2.1)(h6:v.1=none->v.2.2=0)(h7:r'.evs.length<=10000000/\r'.keys.length<=10000000):ScOk x' r':=by
 refine⟨by rw[h2,h0.2.1];exact h.sl,by rw[h0.1,h0.2.2];exact h.sz,fun i hi=>?_,h7⟩
 rw[h3,List.length_append,List.length_singleton]at hi
 rw[h3,h4]
 rcases Nat.lt_or_ge i r.keys.length with hl|hl
 ·rw[show kxS x.kx r.keys.length v i=x.kx i from if_neg (by omega)]
  have e:gky (r.keys++[k]) i=gky r.keys i:=by unfold gky;rw[List.getD_eq_getElem?_getD,List.getElem?_append_left hl,<-List.getD_eq_getElem?_getD]
  rw[e];exact h.kl i hl
 ·obtain rfl:i=r.keys.length:=by omega
  rw[show kxS x.kx r.keys.length v r.keys.length=v from if_pos rfl]
  have e:gky (r.keys++[k]) r.keys.length=k:=by simp[gky]
  rw[e];exact⟨h5,h6⟩
theorem qpE {r:Rc}{U:TS}{l:List Int}{e:Ev}(h:evR (qae r.evs) (some l)=(some e,some [])):qb5 ⟨r,U⟩ (69::l)=some ⟨⟨r.start,r.evs++[e],r.keys⟩,qU U e⟩:=by
 show qiS _ _=_
 unfold qiS
 rw[h]
theorem qmj {r:Rc}{U:TS}{l:List Int}{eo:Option Ev}{s1:RS}(h:evR (qae r.evs) (some l)=(eo,s1))(hn:eo=none\/ ¬s1=some []):qb5 ⟨r,U⟩ (69::l)=none:=by
 show qiS _ _=_
 unfold qiS
 rw[h]
 split
 ·rename_i e h1
  obtain⟨rfl,rfl⟩:=Prod.mk.inj h1
  exact absurd rfl (hn.resolve_left (by simp))
 ·rfl
theorem qkq {r:Rc}{U:TS}{l:List Int}(h:qQ ⟨r.evs.length,qN U⟩=l)(hn:¬(0<r.keys.length/\(gky r.keys (r.keys.length-1)).after=r.evs.length)):qb5 ⟨r,U⟩ (75::l)=some ⟨⟨r.start,r.evs,r.keys++[⟨r.evs.length,qN U⟩]⟩,U⟩:=if_pos ⟨h,hn⟩
theorem qbg {r:Rc}{U:TS}{l:List Int}(h:¬(qQ ⟨r.evs.length,qN U⟩=l/\ ¬(0<r.keys.length/\(gky r.keys (r.keys.length-1)).after=r.evs.length))):qb5 ⟨r,U⟩ (75::l)=none:=if_neg h
theorem qmk {s:Sc}{l:List Int}{c:Int}(h1:¬c=69)(h2:¬c=75):qb5 s (c::l)=none:=by
 show(if c=69 then _ else if c=75 then _ else none)=none
 rw[if_neg h1,if_neg h2]
theorem Sep.kya {kb n c:Nat}{keys:List Ky}{kx:Nat->Option Addr×Nat×Nat}(h:Sep w0 F0 w l)(i:Nat)(y:Int)(q:Nat)(hi:l[i]? =some (qaz qgS 2 (some kb) n c (qaL kx keys 0)):=by rfl)(hy:y.toNat=q:=by omega)(hq:q<keys.length:=by omega):w.cell? ⟨kb,0+y.toNat*2,none⟩=some (.int .i64 (gky keys q).after):=by
 have:=(h.own i hi).rd.2 ⟨kb,0,none⟩ rfl _ _ (qgT kx keys 0 q hq).1
 rw[qb7]at this
 rw[hy];exact this
theorem SepOn.kya {is:List Nat}{kb n c:Nat}{keys:List Ky}{kx:Nat->Option Addr×Nat×Nat}(h:SepOn w0 F0 l is w)(i:Nat)(y:Int)(q:Nat)(hm:is.contains i=true:=by rfl)(hi:l[i]? =some (qaz qgS 2 (some kb) n c (qaL kx keys 0)):=by rfl)(hy:y.toNat=q:=by omega)(hq:q<keys.length:=by omega):w.cell? ⟨kb,0+y.toNat*2,none⟩=some (.int .i64 (gky keys q).after):=by
 obtain⟨l',h,e⟩:=h
 have:=List.map_inj_left.1 e i (by simpa using hm)
 exact h.kya i y q (this.trans hi) hy hq
theorem Sep.newTm {t:Nat}{U:TS}(h:Sep w0 F0 w l)(hA:TermAt w' t U (fun b=>w.heap.size<=b/\b<w'.heap.size))(hc:Ch (fun _=>False) w w'):Sep w0 F0 w' (l++[qav t U]):=
 h.add (A:=qav t U) (tmA.of hA) (fun _ hb=>hb) hc
theorem Sep.ro0 (h:Sep w0 F0 w l):Sep w0 F0 w (l++[roA []]):=
 h.add (A:=roA []) (G:=fun _=>False) (fun p hp=>by cases hp) (fun _ h=>h.elim) (Ch.refl _ _)
def qbX (dec:List Int->Option TS)(f:List Int):Option Sc:=match qfr dec f with
 |none=>none
 |some (s,k)=>if k<f.length/\ ¬qc8 s.r true=f then none else some s
theorem qiX {dec:List Int->Option TS}{f xs:List Int}{k:Nat}(h:qaV f=(xs,k))(hn:k=0\/xs=[]\/ ¬xs.getD 0 0=83):qfr dec f=none:=by
 unfold qfr
 rw[h]
 dsimp only
 split
 ·rfl
 ·rename_i hk
  cases xs with
  |nil=>rfl
  |cons c q=>
   dsimp only
   rw[if_neg]
   rcases hn with hn|hn|hn
   ·exact absurd hn hk
   ·cases hn
   ·exact hn
theorem qgZ {dec:List Int->Option TS}{f q:List Int}{k:Nat}(h:qaV f=(83::q,k))(hk:¬k=0):qfr dec f=match dec q with|none=>none|some U=>some (qfq f.length ⟨⟨q,[],[]⟩,U⟩ (f.drop k) k):=by
 unfold qfr
 rw[h]
 dsimp only
 rw[if_neg hk,if_pos rfl]
 all_goals (cases dec q<;>rfl)
theorem qkr {n a k:Nat}{s:Sc}{f xs:List Int}(h:qaV f=(xs,k))(hn:k=0\/qb5 s xs=none):qfq (n+1) s f a=(s,a):=by
 unfold qfq
 rw[h]
 dsimp only
 split
 ·rfl
 ·rename_i hk;rw[hn.resolve_left hk]
theorem readF_go {n a k:Nat}{s s':Sc}{f xs:List Int}(h:qaV f=(xs,k))(hk:¬k=0)(ht:qb5 s xs=some s'):qfq (n+1) s f a=qfq n s' (f.drop k) (a+k):=by
 rw[qfq,h]
 dsimp only
 rw[if_neg hk,ht]
theorem take_len {s s':Sc}{f:List Int}(h:qb5 s f=some s'):s'.r.evs.length<=s.r.evs.length+1/\s'.r.keys.length<=s.r.keys.length+1:=by
 unfold qb5 at h
 split at h
 ·cases h
 ·split at h
  ·unfold qiS at h
   split at h
   ·obtain rfl:=Option.some.inj h;exact⟨by simp,Nat.le_succ _⟩
   ·cases h
  ·split at h
   ·unfold qpA at h
    split at h
    ·obtain rfl:=Option.some.inj h;exact⟨Nat.le_succ _,by simp⟩
    ·cases h
   ·cases h
theorem Own.len1' {o:Option Nat}{n c:Nat}{f:List Int}(h:Own w tU8 1 o n c (u8s f)):f.length=n:=by
 have:=h.len1
 rwa[List.length_map]at this
theorem qpF {s:Sc}{F:Nat->Prop}(h:(qe8 b s).P w F)(hF:∀k,F k->k<w.heap.size):∃sa sn sc eo ec ko kc kx,RcRd w b sa sn sc eo ec ko kc kx s.r:=by
 obtain⟨x,h⟩:=Sep.startP h hF
 obtain⟨sa,sn,sc,eo,ec,ko,kc,kx,t⟩:=x
 exact⟨_,_,_,_,_,_,_,_,h.rc⟩
end
theorem qpG {d:ByteArray}:(d.toList==ByteArray.empty.toList)=decide (d.size=0):=by
 rw[Bool.eq_iff_iff];constructor
 ·intro h;rw[qhI h];decide
 intro h;rw[bytes0 (of_decide_eq_true h)];simp[E0]
theorem qbk {t k W H:Int}{d:ByteArray}:evB ⟨t,k,d,W,H⟩=decide ((0<=t/\t<4611686018427387904/\d.size<=400)/\((k=2/\d.size=0/\1<=W/\1<=H/\W<=1000/\H<=1000)\/((k=0\/k=1\/k=3)/\W=0/\H=0))):=by
 unfold evB;dsimp only;split
 ·exact(decide_eq_false (by omega)).symm
 split
 ·rw[decide_eq_decide];omega
 split
 ·rw[decide_eq_decide];omega
 exact(decide_eq_false (by omega)).symm
theorem qe9 (t k W H:Int)(d:ByteArray)(w:World):Calls Tryz.prog 74 [.agg #[iX t,iX k,.string d,iX W,iX H]].toArray w fun e w'=>e= .returned (.bool (evB ⟨t,k,d,W,H⟩))/\Ch (fun _=>False) w w':=by
 have h:=Sep.nil w;refine yA Tryz.func74 rfl<|ysr<|yo (zN [iX t,iX k,.string d,iX W,iX H] 66 h fun u A h=>?_);refine yz 2<|ys<|qa<|ysr<|yp 4 [] (.l (h.c 0 0) .z)<|yw [7] (rL t 0) (fun a=>?_) fun a=>?_
 ·have B:=a;refine yz 15<|yct<|yx 1<|q9 (rB (rS (yR1 (.bool false) ?_)));refine⟨zc ?_,h.ch⟩;rw[qbk,Bool.eq_iff_iff];simp only[beq_iff_eq,decide_eq_true_eq,Bool.false_eq_true,false_iff];omega
 have C:=a;refine yp 9 [] (.l (h.c 0 0) .z)<|yw [12] (rM 4611686018427387904 t) (fun b=>?_) fun b=>?_
 ·have D:=b;refine yz 15<|yct<|yx 1<|q9 (rB (rS (yR1 (.bool false) ?_)));refine⟨zc ?_,h.ch⟩;rw[qbk,Bool.eq_iff_iff];simp only[beq_iff_eq,decide_eq_true_eq,Bool.false_eq_true,false_iff];omega
 have E:=b;refine yp 15 [] (.l (h.c 0 2) .z)<|ye<|yc (rL 400 ((d).size:Int)) (fun f=>?_) fun f=>?_
 ·have F:=f;refine yx 1<|q9 (rB (rS (yR1 (.bool false) ?_)));refine⟨zc ?_,h.ch⟩;rw[qbk,Bool.eq_iff_iff];simp only[beq_iff_eq,decide_eq_true_eq,Bool.false_eq_true,false_iff];omega
 have G:=f;refine ysr<|yp 4 [] (.l (h.c 0 1) .z)<|ye<|yc (rE k 2) (fun g=>?_) fun g=>?_
 ·have I:=g;refine ysr<|yp 4 [] (.l (h.c 0 2) .z)<|yw [25] (rY ((d).toList==(ByteArray.empty).toList)) (fun i=>?_) fun i=>?_
  ·have x:=i;simp only[qpG,decide_eq_true_eq,Bool.not_eq_true,decide_eq_false_iff_not]at x;refine yp 9 [] (.l (h.c 0 3) .z)<|yw [30] (rM 1 W) (fun j=>?_) fun j=>?_
   ·have J:=j;refine yp 14 [] (.l (h.c 0 4) .z)<|yw [35] (rM 1 H) (fun m=>?_) fun m=>?_
    ·have K:=m;refine yp 19 [] (.l (h.c 0 3) .z)<|yw [40] (rM W 1000) (fun n=>?_) fun n=>?_
     ·have L:=n;refine yp 24 [] (.l (h.c 0 4) .z)<|ye<|q9 (rB (rS (yR1 (.bool (decide (H<=1000))) ?_)));refine⟨zc ?_,h.ch⟩;rw[qbk,Bool.eq_iff_iff];simp only[beq_iff_eq,decide_eq_true_eq,Bool.false_eq_true,false_iff];omega
     have M:=n;refine yz 24<|q9 (rB (rS (yR1 (.bool false) ?_)));refine⟨zc ?_,h.ch⟩;rw[qbk,Bool.eq_iff_iff];simp only[beq_iff_eq,decide_eq_true_eq,Bool.false_eq_true,false_iff];omega
    have N:=m;refine yz 24<|q9 (rB (rS (yR1 (.bool false) ?_)));refine⟨zc ?_,h.ch⟩;rw[qbk,Bool.eq_iff_iff];simp only[beq_iff_eq,decide_eq_true_eq,Bool.false_eq_true,false_iff];omega
   have O:=j;refine yz 24<|q9 (rB (rS (yR1 (.bool false) ?_)));refine⟨zc ?_,h.ch⟩;rw[qbk,Bool.eq_iff_iff];simp only[beq_iff_eq,decide_eq_true_eq,Bool.false_eq_true,false_iff];omega
  have y:=i;simp only[qpG,decide_eq_true_eq,Bool.not_eq_true,decide_eq_false_iff_not]at y;refine yz 24<|q9 (rB (rS (yR1 (.bool false) ?_)));refine⟨zc ?_,h.ch⟩;rw[qbk,Bool.eq_iff_iff];simp only[beq_iff_eq,decide_eq_true_eq,Bool.false_eq_true,false_iff];omega
 have P:=g;refine ysr<|yp 4 [] (.l (h.c 0 1) .z)<|yw [49] (rE k 0) (fun o=>?_) fun o=>?_
 ·have Q:=o;refine yz 14<|yct<|ysr<|yp 4 [] (.l (h.c 0 3) .z)<|yw [62] (rE W 0) (fun p=>?_) fun p=>?_
  ·have R:=p;refine yp 9 [] (.l (h.c 0 4) .z)<|ye<|q9 (rB (rS (yR1 (.bool ((H:Int)==0)) ?_)));refine⟨zc ?_,h.ch⟩;rw[qbk,Bool.eq_iff_iff];simp only[beq_iff_eq,decide_eq_true_eq,Bool.false_eq_true,false_iff];omega
  have S:=p;refine yz 9<|q9 (rB (rS (yR1 (.bool false) ?_)));refine⟨zc ?_,h.ch⟩;rw[qbk,Bool.eq_iff_iff];simp only[beq_iff_eq,decide_eq_true_eq,Bool.false_eq_true,false_iff];omega
 have T:=o;refine yp 9 [] (.l (h.c 0 1) .z)<|yw [54] (rE k 1) (fun q=>?_) fun q=>?_
 ·have U:=q;refine yz 14<|yct<|ysr<|yp 4 [] (.l (h.c 0 3) .z)<|yw [62] (rE W 0) (fun r=>?_) fun r=>?_
  ·have V:=r;refine yp 9 [] (.l (h.c 0 4) .z)<|ye<|q9 (rB (rS (yR1 (.bool ((H:Int)==0)) ?_)));refine⟨zc ?_,h.ch⟩;rw[qbk,Bool.eq_iff_iff];simp only[beq_iff_eq,decide_eq_true_eq,Bool.false_eq_true,false_iff];omega
  have X:=r;refine yz 9<|q9 (rB (rS (yR1 (.bool false) ?_)));refine⟨zc ?_,h.ch⟩;rw[qbk,Bool.eq_iff_iff];simp only[beq_iff_eq,decide_eq_true_eq,Bool.false_eq_true,false_iff];omega
 have Y:=q;refine yp 14 [] (.l (h.c 0 1) .z)<|ye<|yc (rE k 3) (fun s=>?_) fun s=>?_
 ·have Z:=s;refine ysr<|yp 4 [] (.l (h.c 0 3) .z)<|yw [62] (rE W 0) (fun v=>?_) fun v=>?_
  ·have a0:=v;refine yp 9 [] (.l (h.c 0 4) .z)<|ye<|q9 (rB (rS (yR1 (.bool ((H:Int)==0)) ?_)));refine⟨zc ?_,h.ch⟩;rw[qbk,Bool.eq_iff_iff];simp only[beq_iff_eq,decide_eq_true_eq,Bool.false_eq_true,false_iff];omega
  have a1:=v;refine yz 9<|q9 (rB (rS (yR1 (.bool false) ?_)));refine⟨zc ?_,h.ch⟩;rw[qbk,Bool.eq_iff_iff];simp only[beq_iff_eq,decide_eq_true_eq,Bool.false_eq_true,false_iff];omega
 have a2:=s;refine qk (nB (nS ?_));refine yx 1<|q9 (yR1 (.bool false) ?_);refine⟨zc ?_,h.ch⟩;rw[qbk,Bool.eq_iff_iff];simp only[beq_iff_eq,decide_eq_true_eq,Bool.false_eq_true,false_iff];omega
theorem qeX (o:Option Nat)(n cap:Nat)(xs:List Int)(fr t k W H:Int)(d:ByteArray)(w:World)(hO:Own w tU8 1 o n cap (u8s xs))(hB:evB ⟨t,k,d,W,H⟩=true)(h0:0<=fr/\fr<=t)(hz:n+1000<=1000000000):Calls Tryz.prog 77 [.slice (o.map at0) n cap,iX fr,.agg #[iX t,iX k,.string d,iX W,iX H]].toArray w fun e w'=> ∃o' n' c',e= .returned (.slice (o'.map at0) n' c')/\Own w' tU8 1 o' n' c' (u8s (xs++evI fr ⟨t,k,d,W,H⟩))/\(xs++evI fr ⟨t,k,d,W,H⟩).length=n'/\App w w' o o':=by
 obtain⟨⟨J,K⟩,L⟩:=qgI hB;dsimp only at*;have M:0<=k/\k<=3:=by omega
 have h:=Sep.startO hO;refine yA Tryz.func77 rfl<|ysr<|yo (zN [iX t,iX k,.string d,iX W,iX H] 66 h fun u N h=>?_);refine yz 2<|ysr<|yp 9 [3,8] (.l (h.c 1 1) (.p (q:=InR .u64 k) (qam (by omega) (by omega)) (.l (h.c 1 0) (.q6 (t-fr) (.p (q:=InR .u64 (t-fr)) (qam (by omega) (by omega)) .z)))))<|yo (zB [.int .u64 k,.int .u64 (t-fr)] 110 2 h fun u O h=>?_);refine yo (yC (qcB (xs:=xs) 2 [k,(t-fr)] (h.own 0) (Rd.all (h.b 2)) (bC (bC bN)) (h.b 2).lt (h.neo 0 2)) ?_);rintro _ u ⟨P,j,Q,rfl,m,R,r⟩;refine⟨_,rfl,?_⟩;have h:=h.appI 0 m r;have S:(xs++qad [k,(t-fr)]).length=j:=by have:=h.len1 0;rwa[List.length_map]at this
 refine yz 12<|ys<|ysr<|yp 3 [] (.l (h.c 1 1) .z)<|ye<|yc (rE k 2) (fun a=>?_) fun a=>?_
 ·have s:=a;refine ysr<|yp 7 [3,6] (.l (h.c 1 3) (.p (q:=InR .u64 W) (qam (by omega) (by omega)) (.l (h.c 1 4) (.p (q:=InR .u64 H) (qam (by omega) (by omega)) .z))))<|yo (zB [.int .u64 W,.int .u64 H] 110 2 h fun u T h=>?_);refine yo (yC (qcB (xs:=xs++qad [k,(t-fr)]) 2 [W,H] (h.own 0) (Rd.all (h.b 3)) (bC (bC bN)) (h.b 3).lt (h.neo 0 3)) ?_);rintro _ u ⟨v,g,x,rfl,y,U,A⟩;refine⟨_,rfl,?_⟩;have h:=h.appI 0 y A;have B:(xs++qad [k,(t-fr)]++qad [W,H]).length=g:=by have:=h.len1 0;rwa[List.length_map]at this
  refine yz 10<|q9 (rS (yR1 (.slice (v.map at0) g x) ?_));obtain⟨hO,hA⟩:=h.finA 0 (hp:=by have:=B;simp only[List.length_append]at this;have:=qeU k.toNat;simp[qad]at*;omega);have f:(xs++qad [k,(t-fr)]++qad [W,H]:List Int)=xs++evI fr ⟨t,k,d,W,H⟩:=by unfold evI;dsimp only;rw[if_pos s];simp only[qad,List.flatMap_cons,List.flatMap_nil,List.append_assoc,List.append_nil]
  rw[f]at hO;exact⟨_,_,_,rfl,hO,by have:=hO.len1;rw[qaB]at this;exact this,hA⟩
 have C:=a;refine yk<|ysr<|yp 3 [] (.l (h.c 1 2) .z)<|yo (yC (qaP (xs:=xs++qad [k,(t-fr)]) (h.own 0) d (by omega)) ?_);rintro _ u ⟨D,i,E,rfl,F,V,G⟩;refine⟨_,rfl,?_⟩;have h:=h.appI 0 F G;have I:(xs++qad [k,(t-fr)]++qbp d).length=i:=by have:=h.len1 0;rwa[List.length_map]at this
 refine yz 5<|q9 (yR1 (.slice (D.map at0) i E) ?_);obtain⟨hO,hA⟩:=h.finA 0 (hp:=by have:=I;simp only[List.length_append]at this;have:=qeU k.toNat;simp[qad]at*;omega);have f:(xs++qad [k,(t-fr)]++qbp d:List Int)=xs++evI fr ⟨t,k,d,W,H⟩:=by unfold evI;dsimp only;rw[if_neg C];simp only[qad,List.flatMap_cons,List.flatMap_nil,List.append_assoc,List.append_nil]
 rw[f]at hO;exact⟨_,_,_,rfl,hO,by have:=hO.len1;rw[qaB]at this;exact this,hA⟩
theorem qnl {rv D:Nat}{s0 s1:RS}{eo:Option Ev}(fr:Int)(w:World)(hA:RdrAt w rv D s0)(hE:evR fr s0=(eo,s1))(hfr:0<=fr/\fr<=4611686018427387904):Calls Tryz.prog 64 [pX rv,iX fr].toArray w fun e w'=>e= .returned (.tuple #[.agg (eo.getD ev0).vals.toArray,.bool eo.isSome])/\RdrAt w' rv D s1/\Ch (· =rv) w w':=by
 have hD:=hA.nd;have h:=Sep.startRO hA;refine yA Tryz.func64 rfl<|ysr<|yo (zN [iX 0,iX 0,oX,iX 0,iX 0] 66 h fun u T h=>?_);refine yz 2<|ysr<|yq 1 ?_;obtain⟨f,C,b⟩:∃x s',qM (4) s0=(x,s'):=⟨_,_,rfl⟩
 have E:=qa6 (lim:=4) (s:=s0);rw[b]at E;dsimp only at E;refine yo (yQ (h.readO 0 hD fun hA=>qY (lim:=4) hA b (by omega)) fun u h=>?_);refine yq 3<|yo (zN [iX 0,iX 0,oX,iX 0,iX 0] 66 h fun u U h=>?_);refine yo (zs h 2 fun u h=>?_);refine ye<|ysr<|yq 2 ?_;obtain⟨g,m,d⟩:∃x s',qM (4611686018427387904) C=(x,s'):=⟨_,_,rfl⟩
 have F:=qa6 (lim:=4611686018427387904) (s:=C);rw[d]at F;dsimp only at F;refine yo (yQ (h.readO 0 hD fun hA=>qY (lim:=4611686018427387904) hA d (by omega)) fun u h=>?_);refine yp 5 [] (.q6 (fr+g) .z)<|yo (zs h 2 fun u h=>?_);refine ye<|ys<|ysr<|yp 3 [] (.l (h.c 2 1) .z)<|ye<|yc (rE f 2) (fun n=>?_) fun n=>?_
 ·have o:=n;refine q7<|yq 1 ?_;obtain⟨p,G,i⟩:∃x s',qM (1001) m=(x,s'):=⟨_,_,rfl⟩
  have H:=qa6 (lim:=1001) (s:=m);rw[i]at H;dsimp only at H;refine yo (yQ (h.readO 0 hD fun hA=>qY (lim:=1001) hA i (by omega)) fun u h=>?_);refine yq 3 ?_;obtain⟨q,J,j⟩:∃x s',qM (1001) G=(x,s'):=⟨_,_,rfl⟩
  have I:=qa6 (lim:=1001) (s:=G);rw[j]at I;dsimp only at I;refine yo (yQ (h.readO 0 hD fun hA=>qY (lim:=1001) hA j (by omega)) fun u h=>?_);refine yq 5<|yo (zs h 2 fun u h=>?_);refine yq 7<|yo (zs h 2 fun u h=>?_);refine ye<|ys<|ysr<|yq 1<|yo (yQ (h.look (qg8 (h.rdrO 0 hD))) fun u h=>?_);refine yq 4<|yw [30] (rN (rY J.isSome)) (fun r=>?_) fun r=>?_
  ·have K:=r;refine yz 8<|yct<|ysr<|yq 1<|yo (zs h 1 fun u h=>?_);refine yz 3<|q9 (rS (yR2 [.agg #[iX 0,iX 0,oX,iX 0,iX 0],.bool false] (.a (h.cs 1 0 5) .z) ?_));unfold evR at hE;simp only[E0,b,d,i,j,if_pos o]at hE;rw[if_neg (fun hh=>absurd hh.1 (by simpa using K))]at hE;obtain⟨rfl,rfl⟩:=Prod.mk.inj hE;exact⟨rfl,h.rdrO 0 hD,h.ch⟩
  have L:=r;refine yp 5 [] (.a (h.cs 2 0 5) .z)<|yo (yQ (h.look (qe9 ((fr+g)) (f) (p) (q) (ByteArray.empty) _)) fun u h=>?_);refine yz 8<|yc (rN (rY (evB ⟨(fr+g),f,ByteArray.empty,p,q⟩))) (fun t=>?_) fun t=>?_
  ·have M:=t;refine ysr<|yq 1<|yo (zs h 1 fun u h=>?_);refine yz 3<|q9 (rS (yR2 [.agg #[iX 0,iX 0,oX,iX 0,iX 0],.bool false] (.a (h.cs 1 0 5) .z) ?_));unfold evR at hE;simp only[E0,b,d,i,j,if_pos o]at hE;rw[if_neg (fun hh=>absurd hh.2 (by simpa using M))]at hE;obtain⟨rfl,rfl⟩:=Prod.mk.inj hE;exact⟨rfl,h.rdrO 0 hD,h.ch⟩
  have N:=t;refine yk<|ysr<|yp 1 [] (.a (h.cs 2 0 5) .z)<|yo (zs h 1 fun u h=>?_);refine yz 3<|q9 (yR2 [.agg #[iX (fr+g),iX f,oX,iX p,iX q],.bool true] (.a (h.cs 1 0 5) .z) ?_);unfold evR at hE;simp only[E0,b,d,i,j,if_pos o]at hE;rw[if_pos ⟨by simpa using L,by simpa using N⟩]at hE;obtain⟨rfl,rfl⟩:=Prod.mk.inj hE;exact⟨rfl,h.rdrO 0 hD,h.ch⟩
 have v:=n;refine q7<|yq 1 ?_;obtain⟨y,O,k⟩:∃x s',qb4 (400) m=(x,s'):=⟨_,_,rfl⟩
 refine yo (yQ (h.readO 0 hD fun hA=>qcR (most:=400) hA k (by decide)) fun u h=>?_);refine yq 3<|yo (zs h 2 fun u h=>?_);refine ye<|ys<|ysr<|yq 1<|yo (yQ (h.look (qg8 (h.rdrO 0 hD))) fun u h=>?_);refine yq 4<|yw [30] (rN (rY O.isSome)) (fun A=>?_) fun A=>?_
 ·have P:=A;refine yz 8<|yct<|ysr<|yq 1<|yo (zs h 1 fun u h=>?_);refine yz 3<|q9 (rS (yR2 [.agg #[iX 0,iX 0,oX,iX 0,iX 0],.bool false] (.a (h.cs 1 0 5) .z) ?_));unfold evR at hE;simp only[E0,b,d,k,if_neg v]at hE;rw[if_neg (fun hh=>absurd hh.1 (by simpa using P))]at hE;obtain⟨rfl,rfl⟩:=Prod.mk.inj hE;exact⟨rfl,h.rdrO 0 hD,h.ch⟩
 have Q:=A;refine yp 5 [] (.a (h.cs 2 0 5) .z)<|yo (yQ (h.look (qe9 ((fr+g)) (f) (0) (0) (y) _)) fun u h=>?_);refine yz 8<|yc (rN (rY (evB ⟨(fr+g),f,y,0,0⟩))) (fun B=>?_) fun B=>?_
 ·have R:=B;refine ysr<|yq 1<|yo (zs h 1 fun u h=>?_);refine yz 3<|q9 (rS (yR2 [.agg #[iX 0,iX 0,oX,iX 0,iX 0],.bool false] (.a (h.cs 1 0 5) .z) ?_));unfold evR at hE;simp only[E0,b,d,k,if_neg v]at hE;rw[if_neg (fun hh=>absurd hh.2 (by simpa using R))]at hE;obtain⟨rfl,rfl⟩:=Prod.mk.inj hE;exact⟨rfl,h.rdrO 0 hD,h.ch⟩
 have S:=B;refine yk<|ysr<|yp 1 [] (.a (h.cs 2 0 5) .z)<|yo (zs h 1 fun u h=>?_);refine yz 3<|q9 (yR2 [.agg #[iX (fr+g),iX f,.string y,iX 0,iX 0],.bool true] (.a (h.cs 1 0 5) .z) ?_);unfold evR at hE;simp only[E0,b,d,k,if_neg v]at hE;rw[if_pos ⟨by simpa using Q,by simpa using S⟩]at hE;obtain⟨rfl,rfl⟩:=Prod.mk.inj hE;exact⟨rfl,h.rdrO 0 hD,h.ch⟩
theorem qks {c:Int}{l:List Int}(hc:0<=c/\c<=255)(h:qaA l):qaA (c::l):=fun x hx=>by
  rcases List.mem_cons.1 hx with rfl|hx
  · exact hc
  · exact h x hx
theorem qb6 (o:Option Nat)(n cap:Nat)(xs:List Int)(sg:Int)(a:Option Addr)(m c:Nat)(l:List Int)(w:World)(hO:Own w tU8 1 o n cap (u8s xs))(hr:Rd w a (u8s l))(hl:l.length=m)(hz0:a=none->c=0)(hby:qaA l)(hsg:0<=sg/\sg<=255)(hne:∀ad,a=some ad-> ¬o=some ad.block)(hz:n+m+200<=1000000000):Calls Tryz.prog 76 [.slice (o.map at0) n cap,uX sg,.slice a m c].toArray w fun e w'=> ∃o' n' c',e= .returned (.slice (o'.map at0) n' c')/\Own w' tU8 1 o' n' c' (u8s (xs++qa9 sg l))/\(xs++qa9 sg l).length=n'/\App w w' o o':=by
 have h:=Sep.startO hO;refine yA Tryz.func76 rfl<|yx 1<|ysr<|yq 2<|yo (zB [uX sg] 5 1 h fun u s h=>?_);refine yq 4 ?_;have h:=h.boxO 1 1;refine yo (zA (a2:=a) (ys:=u8s l) 1 1 m c (1+m) (u8s (sg::l)) h (hr.ch h.ch fun ad e=>hne ad e) (qab _) (hz:=rfl) (hy:=by rw[qaB];omega) (hn2:=hz0) fun u b f h t=>?_);have g:(sg::l).length=(1+m):=by have:=h.len1 1;rwa[List.length_map]at this
 refine yo (yC (qgL o n cap xs (b.map at0) (1+m) f (sg::l) _ (h.own 0) (h.ownRd' 1) g (by intro e;cases hq:b with|none=>exact((h.own 1).2.2.2.1 hq).2|some q=>rw[hq]at e;cases e) (h.neA 0 1) (qks hsg hby) (by omega)) ?_);rintro _ u ⟨i,d,j,rfl,k,v,p⟩;refine⟨_,rfl,?_⟩;have h:=h.appI 0 k p;have r:(xs++qa9 sg l).length=d:=by have:=h.len1 0;rwa[List.length_map]at this
 refine yz 7<|q9 (yR1 (.slice (i.map at0) d j) ?_);obtain⟨hO,hA⟩:=h.finA 0 (hp:=by have:=r;rw[List.length_append]at this;have:=qbR (sg::l);unfold qa9 at*;omega);exact⟨_,_,_,rfl,hO,by have:=hO.len1;rw[qaB]at this;exact this,hA⟩
theorem qeY (b:Nat){sa:Option Addr}{sn sc:Nat}{eo:Option Nat}{ec:Nat}{ko:Option Nat}{kc:Nat}{kx:Nat->Option Addr×Nat×Nat}{r:Rc}(w:World)(hR:RcRd w b sa sn sc eo ec ko kc kx r):Calls Tryz.prog 25 [pX b].toArray w fun e w'=>e= .returned (iX (qae r.evs))/\Ch (fun _=>False) w w':=by
 have c:=hR.en;have h:=Sep.nil w;refine yA Tryz.func25 rfl<|yx 1<|ys<|ysr<|yp 6 [] (.l (hR.ch h.ch).c1 .z)<|ye<|yc (rE ((r.evs.length:Nat):Int) 0) (fun a=>?_) fun a=>?_
 ·have d:=a;refine yx 1<|q9 (rS (yR1 (iX 0) ?_));exact⟨by unfold qae qZ;rw[if_pos (show r.evs.length=0 by omega)],h.ch⟩
 have f:=a;obtain⟨eb,rfl⟩:=hR.eb (by omega);refine yk<|ys<|zD [] h fun u h=>yd (uL 0 14) [] (.l (hR.ch h.ch).c1 (.l (hR.ch h.ch).c1 (.q6 (((r.evs.length:Nat):Int)-1) (.i (((r.evs.length:Nat):Int)-1) (r.evs.length) (.l ((hR.ch h.ch).evx (x:=(((r.evs.length:Nat):Int)-1)) (i:=(r.evs.length-1)) (by omega) (by omega) 0 _ rfl (by decide)) .z)))))<|yDe (nS ?_);refine q9 (yR1 (iX (ge r.evs (r.evs.length-1)).time) ?_);exact⟨by unfold qae qZ;rw[if_neg (show¬r.evs.length=0 by omega)],h.ch⟩
theorem qeZ (b:Nat){sa:Option Addr}{sn sc:Nat}{eo:Option Nat}{ec:Nat}{ko:Option Nat}{kc:Nat}{kx:Nat->Option Addr×Nat×Nat}{r:Rc}(w:World)(hR:RcRd w b sa sn sc eo ec ko kc kx r)(n:Nat)(hn:n<=r.evs.length):Calls Tryz.prog 81 [pX b,iX (n:Int)].toArray w fun e w'=>e= .returned (iX (qZ r.evs n))/\Ch (fun _=>False) w w':=by
 have c:=hR.en;have h:=Sep.nil w;refine yA Tryz.func81 rfl<|yx 1<|ys<|yx 2<|yc (rE ((n:Nat):Int) 0) (fun a=>?_) fun a=>?_
 ·have d:=a;refine yx 1<|q9 (rS (yR1 (iX 0) ?_));exact⟨by unfold qZ;rw[if_pos (show n=0 by omega)],h.ch⟩
 have f:=a;obtain⟨eb,rfl⟩:=hR.eb (by omega);refine yk<|ysr<|yp 10 [] (.l (hR.ch h.ch).c1 (.q6 (((n:Nat):Int)-1) (.i (((n:Nat):Int)-1) (r.evs.length) (.l ((hR.ch h.ch).evx (x:=(((n:Nat):Int)-1)) (i:=(n-1)) (by omega) (by omega) 0 _ rfl (by decide)) .z))))<|ye<|q9 (yR1 (iX (ge r.evs (n-1)).time) ?_);exact⟨by unfold qZ;rw[if_neg (show¬n=0 by omega)],h.ch⟩
theorem qcT (k:Ky)(a:Option Addr)(m c:Nat)(w:World)(hr:Rd w a (u8s k.state))(hl:k.state.length=m)(hz0:a=none->c=0)(hz:m<=900000000)(hk:k.after<=100000000):Calls Tryz.prog 78 [.agg #[iX (k.after:Int),.slice a m c]].toArray w fun e w'=> ∃o n c,e= .returned (.slice (o.map at0) n c)/\Sep w (fun _=>False) w' [qaz tU8 1 o n c (u8s (qQ k))]:=by
 have h:=Sep.nil w;refine yA Tryz.func78 rfl<|ysr<|yo (zN [iX ((k.after:Nat):Int),.slice a m c] 51 h fun u s h=>?_);refine yz 2<|ys<|zDC [7] [0] h fun u h=>ydF [0,1,2,5,6] [2] h.on (fun u h=>(.l (h.c 0 0) (.p (q:=InR .u64 ((k.after:Nat):Int)) (qam (by omega) (by omega)) (.l (h.c 0 1) .z))))<|yH 3 (zB [.int .u64 ((k.after:Nat):Int)] 110 1 h fun u t h=>?_);refine zHa h<|yH 4 (yC (qcB (xs:=[]) 1 [((k.after:Nat):Int)] (Own.nil _ _ _) (Rd.all (h.b 1)) (bC bN) (h.b 1).lt (fun b e=>by cases e)) ?_);rintro _ u ⟨v,d,x,rfl,f,y,g⟩;refine⟨_,rfl,?_⟩;have h:=h.app0 f g;have A:([]++qad [((k.after:Nat):Int)]).length=d:=by have:=h.len1 2;rwa[List.length_map]at this
 refine zHa h<|yK 7 (zA (a2:=a) (ys:=u8s (k.state)) 2 1 m c (d+m) (u8s ([]++qad [((k.after:Nat):Int)]++k.state)) h (hr.ch h.ch fun _ _ h=>h) (qab _) (hz:=(qdy _ _).symm) (hy:=(by rw[qaB];omega)) (hn2:=hz0) fun u i j h B=>?_);have C:([]++qad [((k.after:Nat):Int)]++k.state).length=(d+m):=by have:=h.len1 2;rwa[List.length_map]at this
 refine q8<|yd [8] [] .z<|yDe (nS ?_);refine q9 (yR1 (.slice (i.map at0) (d+m) j) ?_);have r:([]++qad [((k.after:Nat):Int)]++k.state:List Int)=qQ k:=by simp[qQ,qad]
 rw[r]at h;exact⟨_,_,_,rfl,(h.ord [2]).eqv⟩
theorem qi0 (b:Nat){sa:Option Addr}{sn sc:Nat}{eo:Option Nat}{ec:Nat}{ko:Option Nat}{kc:Nat}{kx:Nat->Option Addr×Nat×Nat}{r:Rc}(w:World)(hR:RcRd w b sa sn sc eo ec ko kc kx r)(hW:RcB r):Calls Tryz.prog 50 [pX b].toArray w fun e w'=> ∃o n c p m pc,e= .returned (.tuple #[.slice (o.map at0) n c,.slice (p.map at0) m pc])/\Sep w (fun _=>False) w' [qaz tU8 1 o n c (u8s (qI r).out),qaz 3 1 p m pc ((qI r).pos.map (Value.int .i64))]:=by
 have aG:=hR.en;have h:=Sep.nil w;refine yA Tryz.func50 rfl<|yx 2<|ysr<|yp 4 [] (.l (hR.ch h.ch).c0 .z) ?_;have t:=qaq 83 (r.start);refine yo (yC (qb6 none 0 0 [] 83 sa sn sc (r.start) _ (Own.nil _ _ _) (hR.st.ch h.ch fun _ _ h=>h) hR.sl hR.sz hW.st.1 (by decide) (fun _ _ e=>by cases e) (by have:=hW.st.2;have:=hR.sl;omega)) ?_);rintro _ u ⟨H,v,I,rfl,J,aH,ab⟩;refine⟨_,rfl,?_⟩;rw[List.nil_append]at J;have h:=h.app0 J ab;have aI:(qa9 83 (r.start)).length=v:=by have:=h.len1 0;rwa[List.length_map]at this
 refine yz 6<|yx 1<|yx 1<|ys<|ysr<|yp 7 [] (.l (hR.ch h.ch).c1 (.q6 (((r.evs.length:Nat):Int)+1) .z))<|ye<|qa<|qT [0,4,5,6,18,19] (f':=[(0,pX b),(4,.slice (H.map at0) v I),(5,nX),(6,iX 0),(18,iX (((r.evs.length:Nat):Int)+1)),(19,iX 0)])<|qx (σ:=Nat×Nat×List Int×List Int×Option Nat×Nat×Nat×Option Nat×Nat×Nat) (fun⟨i,k,xs,ps,o,n,c,p,m,pc⟩=>[(0,pX b),(4,.slice (o.map at0) n c),(5,.slice (p.map at0) m pc),(6,iX ((k:Nat):Int)),(18,iX (((r.evs.length:Nat):Int)+1)),(19,iX ((i:Nat):Int))]) (fun⟨i,k,xs,ps,o,n,c,p,m,pc⟩ u=>qC r i=⟨xs,ps,k⟩/\i<=r.evs.length+1/\Sep w (fun _=>False) u [qaz tU8 1 o n c (u8s xs),qaz 3 1 p m pc (ps.map (Value.int .i64))]) (fun⟨i,k,xs,ps,o,n,c,p,m,pc⟩=>r.evs.length+1-i) (0,0,qa9 83 (r.start),[],H,v,I,none,0,0) rfl ?_ ?_
 ·exact⟨rfl,Nat.zero_le _,((h.own0 3 1).ord [0,1]).eqv⟩
 intro q u ac aJ g;obtain⟨i,k,xs,ps,o,n,c,p,m,pc⟩:=q;obtain⟨hP,hi,h⟩:=ac;have y:xs.length=n:=by have:=h.len1 0;rwa[List.length_map]at this
 have aK:ps.length=m:=by have:=h.len1 1;rwa[List.length_map]at this
 have aL:n<=100000000:=by have:=hW.ln i;rw[hP]at this;dsimp only at this;omega
 have K:=pl_k r i;rw[hP]at K;dsimp only at K;refine yx 1<|ys<|yc (rL ((i:Nat):Int) (((r.evs.length:Nat):Int)+1)) (fun A=>?_) fun A=>?_
 ·have aM:=A;refine yk<|ys<|qa<|yx 2<|ys<|ysr<|yp 8 [] (.l (hR.ch h.ch).c2 .z)<|yw [29] (rL ((k:Nat):Int) ((r.keys.length:Nat):Int)) (fun B=>?_) fun B=>?_
  ·have aN:=B;obtain⟨kb,rfl⟩:=hR.kb (by omega);obtain⟨ad,aO,aP⟩:=hW.ks k (by omega);obtain⟨ae,af,ag⟩:=hR.kr k (by omega);refine yp 19 [] (.l (hR.ch h.ch).c2 (.i ((k:Nat):Int) (r.keys.length) (.l ((hR.ch h.ch).kyx (x:=((k:Nat):Int)) (i:=k) (by omega) (by omega)).1 .z)))<|ye<|yc (rE (((gky r.keys k).after:Nat):Int) ((i:Nat):Int)) (fun C=>?_) fun C=>?_
   ·have L:=C;refine ysr<|yq 3<|yo (zB [iX ((n:Nat):Int)] 3 1 h fun u aQ h=>?_);refine yo (zA 1 8 1 1 (m+1) ((ps++[((xs.length:Nat):Int)]).map (Value.int .i64)) h (Rd.all (h.b 2)) rfl (hz:=by rw[y];simp) fun u M N h aR=>?_);refine yz 6<|ysr<|yp 8 [] (.l (hR.ch h.ch).c2 (.i ((k:Nat):Int) (r.keys.length) (.m ((hR.ch h.ch).kyx (x:=((k:Nat):Int)) (i:=k) (by omega) (by omega)).1 (.m ((hR.ch h.ch).kyx (x:=((k:Nat):Int)) (i:=k) (by omega) (by omega)).2 (.e .z)))))<|yo (yC (qcT (gky r.keys k) (kx k).1 (kx k).2.1 (kx k).2.2 _ (ae.ch h.ch fun _ _ h=>h) af ag (by omega) (by omega)) ?_);rintro _ u ⟨O,P,ah,rfl,ai⟩;refine⟨_,rfl,?_⟩;have h:=h.join ai;have Q:(qQ (gky r.keys k)).length=P:=by have:=h.len1 3;rwa[List.length_map]at this
    have t:=qaq 75 (qQ (gky r.keys k));refine yo (yC (qb6 o n c (xs) 75 (O.map at0) P ah (qQ (gky r.keys k)) _ (h.own 0) (h.ownRd' 3) Q (by intro e;cases hq:O with|none=>exact((h.own 3).2.2.2.1 hq).2|some q=>rw[hq]at e;cases e) (qj (qo (by omega)) ad) (by decide) (h.neA 0 3) (by have:=Q;have:=qdO (gky r.keys k);omega)) ?_);rintro _ u ⟨R,D,S,rfl,aj,aS,ak⟩;refine⟨_,rfl,?_⟩;have h:=h.appI 0 aj ak;have al:(xs++qa9 75 (qQ (gky r.keys k))).length=D:=by have:=h.len1 0;rwa[List.length_map]at this
    refine yz 11<|q7<|yp 3 [] (.q6 (((k:Nat):Int)+1) .z)<|ye<|ysr<|yp 7 [] (.l (hR.ch h.ch).c1 .z)<|ye<|yc (rL ((i:Nat):Int) ((r.evs.length:Nat):Int)) (fun E=>?_) fun E=>?_
    ·have aT:=E;obtain⟨eb,rfl⟩:=hR.eb (by omega);obtain⟨d,f,j⟩:=hW.ev i (by omega);have T:=qe5 (fr:=qZ r.evs i) d;have s:=qeV d f;refine zDC [11,12] [0,1,2,3] h fun u h=>ydF [0,1,2,4,5,6,7,8,9,10] [] h.on (fun u h=>(.l (hR.ch h.ch).c1 (.i ((i:Nat):Int) (r.evs.length) (.m ((hR.ch h.ch).evx (x:=((i:Nat):Int)) (i:=i) (by omega) (by omega) 0 _ rfl (by decide)) (.m ((hR.ch h.ch).evx (x:=((i:Nat):Int)) (i:=i) (by omega) (by omega) 1 _ rfl (by decide)) (.m ((hR.ch h.ch).evx (x:=((i:Nat):Int)) (i:=i) (by omega) (by omega) 2 _ rfl (by decide)) (.m ((hR.ch h.ch).evx (x:=((i:Nat):Int)) (i:=i) (by omega) (by omega) 3 _ rfl (by decide)) (.m ((hR.ch h.ch).evx (x:=((i:Nat):Int)) (i:=i) (by omega) (by omega) 4 _ rfl (by decide)) (.e .z)))))))))<|yH 3 (yQ (h.look (qeZ b _ (hR.ch h.ch) i (by omega))) fun u h=>?_);refine zH h<|yK 11 (yC (qeX none 0 0 [] (qZ r.evs i) _ _ _ _ _ _ (Own.nil _ _ _) d ⟨f,j⟩ (by omega)) ?_);rintro _ u ⟨U,V,am,rfl,W,aU,an⟩;refine⟨_,rfl,?_⟩;rw[List.nil_append]at W;have h:=h.app0 W an;have X:(evI (qZ r.evs i) (ge r.evs i)).length=V:=by have:=h.len1 4;rwa[List.length_map]at this
     refine q8 ?_;have t:=qaq 69 (evI (qZ r.evs i) (ge r.evs i));refine yK 12 (yC (qb6 R D S (xs++qa9 75 (qQ (gky r.keys k))) 69 (U.map at0) V am (evI (qZ r.evs i) (ge r.evs i)) _ (h.own 0) (h.ownRd' 4) X (by intro e;cases hq:U with|none=>exact((h.own 4).2.2.2.1 hq).2|some q=>rw[hq]at e;cases e) s (by decide) (h.neA 0 4) (by have:=X;have:=al;rw[List.length_append]at this;have:=qaq 75 (qQ (gky r.keys k));have:=qdO (gky r.keys k);omega)) ?_);rintro _ u ⟨ao,Y,ap,rfl,aq,aV,ar⟩;refine⟨_,rfl,?_⟩;have h:=h.appI 0 aq ar;have aW:(xs++qa9 75 (qQ (gky r.keys k))++qa9 69 (evI (qZ r.evs i) (ge r.evs i))).length=Y:=by have:=h.len1 0;rwa[List.length_map]at this
     refine q8<|yd [13] [] .z<|yDe (nB (nS ?_));refine q7<|yp 2 [] (.q6 (((i:Nat):Int)+1) .z)<|yE (fun a ha=>g (i+1,k+1,xs++qa9 75 (qQ (gky r.keys k))++qa9 69 (evI (qZ r.evs i) (ge r.evs i)),(ps++[((xs.length:Nat):Int)]),ao,Y,ap,M,(m+1),N) _ ⟨qfs hP (qpC (by omega) L) (qpD (by omega)),by omega,h.take 2⟩ (by show r.evs.length+1-(i+1)<r.evs.length+1-i;omega) a (ha.kp [0,4,5,6,18,19]))
    have aX:=E;refine qk (nB (nS ?_));refine q7<|yp 2 [] (.q6 (((i:Nat):Int)+1) .z)<|yE (fun a ha=>g (i+1,k+1,xs++qa9 75 (qQ (gky r.keys k)),(ps++[((xs.length:Nat):Int)]),R,D,S,M,(m+1),N) _ ⟨qfs hP (qpC (by omega) L) (ev_no (by omega)),by omega,h.take 2⟩ (by show r.evs.length+1-(i+1)<r.evs.length+1-i;omega) a (ha.kp [0,4,5,6,18,19]))
   have Z:=C;refine yk<|ysr<|yp 7 [] (.l (hR.ch h.ch).c1 .z)<|ye<|yc (rL ((i:Nat):Int) ((r.evs.length:Nat):Int)) (fun F=>?_) fun F=>?_
   ·have aY:=F;obtain⟨eb,rfl⟩:=hR.eb (by omega);obtain⟨d,f,j⟩:=hW.ev i (by omega);have T:=qe5 (fr:=qZ r.evs i) d;have s:=qeV d f;refine zDC [11,12] [0,1] h fun u h=>ydF [0,1,2,4,5,6,7,8,9,10] [] h.on (fun u h=>(.l (hR.ch h.ch).c1 (.i ((i:Nat):Int) (r.evs.length) (.m ((hR.ch h.ch).evx (x:=((i:Nat):Int)) (i:=i) (by omega) (by omega) 0 _ rfl (by decide)) (.m ((hR.ch h.ch).evx (x:=((i:Nat):Int)) (i:=i) (by omega) (by omega) 1 _ rfl (by decide)) (.m ((hR.ch h.ch).evx (x:=((i:Nat):Int)) (i:=i) (by omega) (by omega) 2 _ rfl (by decide)) (.m ((hR.ch h.ch).evx (x:=((i:Nat):Int)) (i:=i) (by omega) (by omega) 3 _ rfl (by decide)) (.m ((hR.ch h.ch).evx (x:=((i:Nat):Int)) (i:=i) (by omega) (by omega) 4 _ rfl (by decide)) (.e .z)))))))))<|yH 3 (yQ (h.look (qeZ b _ (hR.ch h.ch) i (by omega))) fun u h=>?_);refine zH h<|yK 11 (yC (qeX none 0 0 [] (qZ r.evs i) _ _ _ _ _ _ (Own.nil _ _ _) d ⟨f,j⟩ (by omega)) ?_);rintro _ u ⟨a0,a1,au,rfl,a2,aZ,av⟩;refine⟨_,rfl,?_⟩;rw[List.nil_append]at a2;have h:=h.app0 a2 av;have a3:(evI (qZ r.evs i) (ge r.evs i)).length=a1:=by have:=h.len1 2;rwa[List.length_map]at this
    refine q8 ?_;have t:=qaq 69 (evI (qZ r.evs i) (ge r.evs i));refine yK 12 (yC (qb6 o n c (xs) 69 (a0.map at0) a1 au (evI (qZ r.evs i) (ge r.evs i)) _ (h.own 0) (h.ownRd' 2) a3 (by intro e;cases hq:a0 with|none=>exact((h.own 2).2.2.2.1 hq).2|some q=>rw[hq]at e;cases e) s (by decide) (h.neA 0 2) (by have:=a3;have:=y;skip;omega)) ?_);rintro _ u ⟨aw,a4,ax,rfl,ay,b0,az⟩;refine⟨_,rfl,?_⟩;have h:=h.appI 0 ay az;have b1:(xs++qa9 69 (evI (qZ r.evs i) (ge r.evs i))).length=a4:=by have:=h.len1 0;rwa[List.length_map]at this
    refine q8<|yd [13] [] .z<|yDe (nB (nS ?_));refine q7<|yp 2 [] (.q6 (((i:Nat):Int)+1) .z)<|yE (fun a ha=>g (i+1,k,xs++qa9 69 (evI (qZ r.evs i) (ge r.evs i)),ps,aw,a4,ax,p,m,pc) _ ⟨qfs hP (qmi fun hh=>absurd hh.2 Z) (qpD (by omega)),by omega,h.take 2⟩ (by show r.evs.length+1-(i+1)<r.evs.length+1-i;omega) a (ha.kp [0,4,5,6,18,19]))
   have b2:=F;refine qk (nB (nS ?_));refine q7<|yp 2 [] (.q6 (((i:Nat):Int)+1) .z)<|yE (fun a ha=>g (i+1,k,xs,ps,o,n,c,p,m,pc) _ ⟨qfs hP (qmi fun hh=>absurd hh.2 Z) (ev_no (by omega)),by omega,h.take 2⟩ (by show r.evs.length+1-(i+1)<r.evs.length+1-i;omega) a (ha.kp [0,4,5,6,18,19]))
  have a5:=B;refine yz 19<|ycf<|yk<|ysr<|yp 7 [] (.l (hR.ch h.ch).c1 .z)<|ye<|yc (rL ((i:Nat):Int) ((r.evs.length:Nat):Int)) (fun G=>?_) fun G=>?_
  ·have b3:=G;obtain⟨eb,rfl⟩:=hR.eb (by omega);obtain⟨d,f,j⟩:=hW.ev i (by omega);have T:=qe5 (fr:=qZ r.evs i) d;have s:=qeV d f;refine zDC [11,12] [0,1] h fun u h=>ydF [0,1,2,4,5,6,7,8,9,10] [] h.on (fun u h=>(.l (hR.ch h.ch).c1 (.i ((i:Nat):Int) (r.evs.length) (.m ((hR.ch h.ch).evx (x:=((i:Nat):Int)) (i:=i) (by omega) (by omega) 0 _ rfl (by decide)) (.m ((hR.ch h.ch).evx (x:=((i:Nat):Int)) (i:=i) (by omega) (by omega) 1 _ rfl (by decide)) (.m ((hR.ch h.ch).evx (x:=((i:Nat):Int)) (i:=i) (by omega) (by omega) 2 _ rfl (by decide)) (.m ((hR.ch h.ch).evx (x:=((i:Nat):Int)) (i:=i) (by omega) (by omega) 3 _ rfl (by decide)) (.m ((hR.ch h.ch).evx (x:=((i:Nat):Int)) (i:=i) (by omega) (by omega) 4 _ rfl (by decide)) (.e .z)))))))))<|yH 3 (yQ (h.look (qeZ b _ (hR.ch h.ch) i (by omega))) fun u h=>?_);refine zH h<|yK 11 (yC (qeX none 0 0 [] (qZ r.evs i) _ _ _ _ _ _ (Own.nil _ _ _) d ⟨f,j⟩ (by omega)) ?_);rintro _ u ⟨a6,a7,aA,rfl,a8,b4,aB⟩;refine⟨_,rfl,?_⟩;rw[List.nil_append]at a8;have h:=h.app0 a8 aB;have a9:(evI (qZ r.evs i) (ge r.evs i)).length=a7:=by have:=h.len1 2;rwa[List.length_map]at this
   refine q8 ?_;have t:=qaq 69 (evI (qZ r.evs i) (ge r.evs i));refine yK 12 (yC (qb6 o n c (xs) 69 (a6.map at0) a7 aA (evI (qZ r.evs i) (ge r.evs i)) _ (h.own 0) (h.ownRd' 2) a9 (by intro e;cases hq:a6 with|none=>exact((h.own 2).2.2.2.1 hq).2|some q=>rw[hq]at e;cases e) s (by decide) (h.neA 0 2) (by have:=a9;have:=y;skip;omega)) ?_);rintro _ u ⟨aC,aa,aD,rfl,aE,b5,aF⟩;refine⟨_,rfl,?_⟩;have h:=h.appI 0 aE aF;have b6:(xs++qa9 69 (evI (qZ r.evs i) (ge r.evs i))).length=aa:=by have:=h.len1 0;rwa[List.length_map]at this
   refine q8<|yd [13] [] .z<|yDe (nB (nS ?_));refine q7<|yp 2 [] (.q6 (((i:Nat):Int)+1) .z)<|yE (fun a ha=>g (i+1,k,xs++qa9 69 (evI (qZ r.evs i) (ge r.evs i)),ps,aC,aa,aD,p,m,pc) _ ⟨qfs hP (qmi fun hh=>a5 (by have:=hh.1;omega)) (qpD (by omega)),by omega,h.take 2⟩ (by show r.evs.length+1-(i+1)<r.evs.length+1-i;omega) a (ha.kp [0,4,5,6,18,19]))
  have b7:=G;refine qk (nB (nS ?_));refine q7<|yp 2 [] (.q6 (((i:Nat):Int)+1) .z)<|yE (fun a ha=>g (i+1,k,xs,ps,o,n,c,p,m,pc) _ ⟨qfs hP (qmi fun hh=>a5 (by have:=hh.1;omega)) (ev_no (by omega)),by omega,h.take 2⟩ (by show r.evs.length+1-(i+1)<r.evs.length+1-i;omega) a (ha.kp [0,4,5,6,18,19]))
 have b8:=A;refine ql (eS (qd (qb (nS ?_))));refine yx 4<|q9 (yR2 [.slice (o.map at0) n c,.slice (p.map at0) m pc] .z ?_);obtain rfl:i=r.evs.length+1:=by omega
 have hP:qI r=⟨xs,ps,k⟩:=hP;rw[hP];exact⟨_,_,_,_,_,_,rfl,(h.ord [0,1]).eqv⟩
theorem qnm (b:Nat){sa:Option Addr}{sn sc:Nat}{eo:Option Nat}{ec:Nat}{ko:Option Nat}{kc:Nat}{kx:Nat->Option Addr×Nat×Nat}{r:Rc}(w:World)(hR:RcRd w b sa sn sc eo ec ko kc kx r)(hW:RcB r)(N:Int)(pa:Option Nat)(m pc:Nat)(ps:List Int)(hr:Rd w (pa.map at0) (ps.map (Value.int .i64)))(hpl:ps.length=m)(hn:0<=N/\N<=100000000)(hp:∀x∈ps,0<=x/\x<=100000000)(hk:m<=r.keys.length)(ht:∀j,j<m->(gky r.keys j).after<=r.evs.length/\True):Calls Tryz.prog 51 [pX b,iX N,.slice (pa.map at0) m pc].toArray w fun e w'=> ∃o n c,e= .returned (.slice (o.map at0) n c)/\Sep w (fun _=>False) w' [qaz tU8 1 o n c (u8s (qcu r N ps))]:=by
 have E:=hR.en;have h:=Sep.nil w;refine yA Tryz.func51 rfl<|yx 1<|ysr<|yp 3 [2] (.p (q:=InR .u64 ((m:Nat):Int)) (qam (by omega) (by omega)) .z)<|yo (zB [.int .u64 ((m:Nat):Int)] 110 1 h fun u a0 h=>?_);refine yo (yC (qcB (xs:=[]) 1 [((m:Nat):Int)] (Own.nil _ _ _) (Rd.all (h.b 0)) (bC bN) (h.b 0).lt (fun b e=>by cases e)) ?_);rintro _ u ⟨s,f,t,rfl,v,a1,F⟩;refine⟨_,rfl,?_⟩;rw[List.nil_append]at v;have h:=h.app0 v F;have a2:(qad [((m:Nat):Int)]).length=f:=by have:=h.len1 1;rwa[List.length_map]at this
 refine yz 6<|ys<|yx 3<|qa ?_;rw[idx_zero r hpl]at h;refine qT [0,1,7,16,17,18] (f':=[(0,pX b),(1,iX N),(7,.slice (s.map at0) f t),(16,.slice (pa.map at0) m pc),(17,iX ((m:Nat):Int)),(18,iX 0)])<|qx (σ:=Nat×Option Nat×Nat×Nat) (fun⟨j,o,d,c⟩=>[(0,pX b),(1,iX N),(7,.slice (o.map at0) d c),(16,.slice (pa.map at0) m pc),(17,iX ((m:Nat):Int)),(18,iX ((j:Nat):Int))]) (fun⟨j,o,d,c⟩ u=>j<=m/\Sep w (fun _=>False) u [qaz tU8 1 o d c (u8s (qha r ps j))]) (fun⟨j,o,d,c⟩=>m-j) (0,s,f,t) rfl ?_ ?_
 ·exact⟨Nat.zero_le _,(h.ord [1]).eqv⟩
 intro q u G a3 H;obtain⟨j,o,d,c⟩:=q;obtain⟨hj,h⟩:=G;have I:(qha r ps j).length=d:=by have:=h.len1 0;rwa[List.length_map]at this
 have a4:=qgW r ps j;refine yx 1<|ys<|yc (rL ((j:Nat):Int) ((m:Nat):Int)) (fun g=>?_) fun g=>?_
 ·have a5:=g;obtain⟨pb,rfl⟩:∃pb,pa=some pb:=by cases pa with|some b=>exact⟨b,rfl⟩|none=>have J:=List.map_eq_nil_iff.1 (hr.1 rfl);exact absurd (show([]:List Int).length=m by rw[<-J];exact hpl) (by simp only[List.length_nil];omega)
  obtain⟨kb,rfl⟩:=hR.kb (by omega);obtain⟨y,a6⟩:=ht j (by omega);have a7:=hW.tm y;have a8:=hp _ (qd2 (l:=ps) (k:=j) (by omega));have a9:=(hW.ks j (by omega)).2.2;refine yk<|ys<|qa<|ysr<|yp 5 [] (.i ((j:Nat):Int) (m) (.l (o:=(0+(((j:Nat):Int)).toNat*1)) (qcd (hr.ch h.ch fun _ _ h=>h) (k:=j) (by omega)) .z))<|ye<|ysr<|yp 9 [] (.l (hR.ch h.ch).c2 (.i ((j:Nat):Int) (r.keys.length) (.l ((hR.ch h.ch).kyx (x:=((j:Nat):Int)) (i:=j) (by omega) (by omega)).1 .z)))<|ye<|q7<|yp 5 [2] (.p (q:=InR .u64 (((gky r.keys j).after:Nat):Int)) (qam (by omega) (by omega)) .z)<|yo (yQ (h.look (qeZ b _ (hR.ch h.ch) (gky r.keys j).after y)) fun u h=>?_);refine yp 9 [6,8] (.p (q:=InR .u64 (qZ r.evs (gky r.keys j).after)) (qam (by omega) (by omega)) (.p (q:=InR .u64 (ps.getD j 0)) (qam (by omega) (by omega)) .z))<|yo (zB [.int .u64 (((gky r.keys j).after:Nat):Int),.int .u64 (qZ r.evs (gky r.keys j).after),.int .u64 (ps.getD j 0)] 110 3 h fun u b24 h=>?_);refine yo (yC (qcB (xs:=qha r ps j) 3 [(((gky r.keys j).after:Nat):Int),(qZ r.evs (gky r.keys j).after),(ps.getD j 0)] (h.own 0) (Rd.all (h.b 1)) (bC (bC (bC bN))) (h.b 1).lt (h.neo 0 1)) ?_);rintro _ u ⟨K,A,L,rfl,M,aa,O⟩;refine⟨_,rfl,?_⟩;have h:=h.appI 0 M O;have ab:(qha r ps j++qad [(((gky r.keys j).after:Nat):Int),(qZ r.evs (gky r.keys j).after),(ps.getD j 0)]).length=A:=by have:=h.len1 0;rwa[List.length_map]at this
  refine yq 12<|yE (nB (nS ?_));refine q7<|yp 2 [] (.q6 (((j:Nat):Int)+1) .z) ?_;rw[idx_next]at h;refine yE (fun a ha=>H (j+1,K,A,L) _ ⟨by omega,h.take 1⟩ (by show m-(j+1)<m-j;omega) a (ha.kp [0,1,7,16,17,18]))
 have ac:=g;obtain rfl:m=j:=by omega
 have P:=qiV hW hp (by omega) E.2 (fun q hq=>⟨(ht q (by omega)).1,(hW.tm (ht q (by omega)).1).2⟩) m (by omega);refine ql (eS (qd (qb (nS ?_))));refine ysr<|yq 1 ?_;have ae:=qaq 73 (qha r ps m);refine yo (yC (qb6 none 0 0 [] 73 (o.map at0) d c (qha r ps m) _ (Own.nil _ _ _) (h.ownRd' 0) I (by intro e;cases hq:o with|none=>exact((h.own 0).2.2.2.1 hq).2|some q=>rw[hq]at e;cases e) P (by decide) (fun _ _ e=>by cases e) (by skip;omega)) ?_);rintro _ u ⟨Q,B,R,rfl,C,af,S⟩;refine⟨_,rfl,?_⟩;rw[List.nil_append]at C;have h:=h.app0 C S;have T:(qa9 73 (qha r ps m)).length=B:=by have:=h.len1 1;rwa[List.length_map]at this
 refine yp 13 [] (.p (q:=0<=(8:Int)) (by omega) (.p (q:=0<=(16:Int)) (by omega) (.p (q:=0<=(24:Int)) (by omega) .z)))<|yo (zB [uX (IntKind.wrap .u8 N),uX (IntKind.wrap .u8 (Int.fdiv N (2^min (8:Int).toNat (IntKind.bits .i64)))),uX (IntKind.wrap .u8 (Int.fdiv N (2^min (16:Int).toNat (IntKind.bits .i64)))),uX (IntKind.wrap .u8 (Int.fdiv N (2^min (24:Int).toNat (IntKind.bits .i64))))] 5 4 h fun u U h=>?_);refine yo (yC (qb6 Q B R (qa9 73 (qha r ps m)) 70 (some ⟨U,0,none⟩) 4 4 [(IntKind.wrap .u8 N),(IntKind.wrap .u8 (Int.fdiv N (2^min (8:Int).toNat (IntKind.bits .i64)))),(IntKind.wrap .u8 (Int.fdiv N (2^min (16:Int).toNat (IntKind.bits .i64)))),(IntKind.wrap .u8 (Int.fdiv N (2^min (24:Int).toNat (IntKind.bits .i64))))] _ (h.own 1) (Rd.all (h.b 2)) rfl (fun e=>by cases e) (fun x hx=>by simp only[List.mem_cons,List.not_mem_nil,or_false]at hx;rcases hx with rfl|rfl|rfl|rfl<;>exact qiO _) (by decide) (fun ad e hx=>by cases e;exact h.neo 1 2 (by decide) (by rfl) (by rfl) _ hx rfl) (by have:=T;omega)) ?_);rintro _ u ⟨V,D,W,rfl,X,ag,Y⟩;refine⟨_,rfl,?_⟩;have h:=h.appI 1 X Y;have ah:(qa9 73 (qha r ps m)++qa9 70 [(IntKind.wrap .u8 N),(IntKind.wrap .u8 (Int.fdiv N (2^min (8:Int).toNat (IntKind.bits .i64)))),(IntKind.wrap .u8 (Int.fdiv N (2^min (16:Int).toNat (IntKind.bits .i64)))),(IntKind.wrap .u8 (Int.fdiv N (2^min (24:Int).toNat (IntKind.bits .i64))))]).length=D:=by have:=h.len1 1;rwa[List.length_map]at this
 refine yz 16<|q9 (yR1 (.slice (V.map at0) D W) ?_);have Z:(qa9 73 (qha r ps m)++qa9 70 [(IntKind.wrap .u8 N),(IntKind.wrap .u8 (Int.fdiv N (2^min (8:Int).toNat (IntKind.bits .i64)))),(IntKind.wrap .u8 (Int.fdiv N (2^min (16:Int).toNat (IntKind.bits .i64)))),(IntKind.wrap .u8 (Int.fdiv N (2^min (24:Int).toNat (IntKind.bits .i64))))]:List Int)=qcu r N ps:=by unfold qcu;rw[hpl];rfl
 rw[Z]at h;exact⟨_,_,_,rfl,(h.ord [1]).eqv⟩
theorem qcv (b:Nat){sa:Option Addr}{sn sc:Nat}{eo:Option Nat}{ec:Nat}{ko:Option Nat}{kc:Nat}{kx:Nat->Option Addr×Nat×Nat}{r:Rc}(w:World)(hR:RcRd w b sa sn sc eo ec ko kc kx r)(hW:RcB r):Calls Tryz.prog 20 [pX b,.bool true].toArray w fun e w'=> ∃o n c,e= .returned (.slice (o.map at0) n c)/\Sep w (fun _=>False) w' [qaz tU8 1 o n c (u8s (qc8 r true))]:=by
 have D:=hR.en;have h:=Sep.nil w;refine yA Tryz.func20 rfl<|yx 1<|ysr<|yq 1<|yo (yC (qi0 b _ (hR.ch h.ch) hW) ?_);rintro _ u ⟨E,a,F,l,f,m,rfl,p⟩;refine⟨_,rfl,?_⟩;have h:=h.join p;have s:((qI r).out).length=a:=by have:=h.len1 0;rwa[List.length_map]at this
 have t:(qI r).pos.length=f:=by have:=h.len1 1;rwa[List.length_map]at this
 have G:(qI r).pos.length=(qI r).k/\_:=pl_k r (r.evs.length+1);have v:(qI r).k<=r.keys.length/\ ∀j,j<(qI r).k->_:=pl_a r (r.evs.length+1) (Nat.le_refl _);have x:=pl_p hW (r.evs.length+1);have H:(qI r).out.length<=100000000:=hW.ln (r.evs.length+1);refine yz 7<|ys<|yx 1<|yct<|q7<|yq 5<|yo (yC (qnm b _ (hR.ch h.ch) hW ((a:Nat):Int) l f m _ (h.ownRd' 1) t (by omega) x (by omega) (fun j hj=>⟨v.2 j (by omega),trivial⟩)) ?_);rintro _ u ⟨g,d,y,rfl,z⟩;refine⟨_,rfl,?_⟩;have h:=h.join z;have i:(qcu r ((a:Nat):Int) (qI r).pos).length=d:=by have:=h.len1 2;rwa[List.length_map]at this
 have I:=qgX r ((a:Nat):Int) (qI r).pos;have J:=i;refine yo (zA (a2:=(g.map at0)) (ys:=u8s (qcu r ((a:Nat):Int) (qI r).pos)) 0 1 d y (a+d) (u8s ((qI r).out++qcu r ((a:Nat):Int) (qI r).pos)) h (h.ownRd' 2) (qab _) (hz:=(qdy _ _).symm) (hy:=(by rw[qaB];have:=i;omega)) (hn2:=(by intro e;cases hq:g with|none=>exact((h.own 2).2.2.2.1 hq).2|some q=>rw[hq]at e;cases e)) fun u A B h K=>?_);have L:((qI r).out++qcu r ((a:Nat):Int) (qI r).pos).length=(a+d):=by have:=h.len1 0;rwa[List.length_map]at this
 refine yz 8<|yx 2<|q9 (yR1 (.slice (A.map at0) (a+d) B) ?_);have C:((qI r).out++qcu r ((a:Nat):Int) (qI r).pos:List Int)=qc8 r true:=by unfold qc8;rw[if_pos rfl,s]
 rw[C]at h;exact⟨_,_,_,rfl,(h.ord [0]).eqv⟩
theorem qd4 (b:Nat){sa:Option Addr}{sn sc:Nat}{eo:Option Nat}{ec:Nat}{ko:Option Nat}{kc:Nat}{kx:Nat->Option Addr×Nat×Nat}{r:Rc}(w:World)(hR:RcRd w b sa sn sc eo ec ko kc kx r)(hW:RcB r):Calls Tryz.prog 20 [pX b,.bool false].toArray w fun e w'=> ∃o n c,e= .returned (.slice (o.map at0) n c)/\Sep w (fun _=>False) w' [qaz tU8 1 o n c (u8s (qc8 r false))]:=by
 have m:=hR.en;have h:=Sep.nil w;refine yA Tryz.func20 rfl<|yx 1<|ysr<|yq 1<|yo (yC (qi0 b _ (hR.ch h.ch) hW) ?_);rintro _ u ⟨d,a,f,p,g,q,rfl,i⟩;refine⟨_,rfl,?_⟩;have h:=h.join i;have s:((qI r).out).length=a:=by have:=h.len1 0;rwa[List.length_map]at this
 have t:(qI r).pos.length=g:=by have:=h.len1 1;rwa[List.length_map]at this
 have v:(qI r).pos.length=(qI r).k/\_:=pl_k r (r.evs.length+1);have x:(qI r).k<=r.keys.length/\ ∀j,j<(qI r).k->_:=pl_a r (r.evs.length+1) (Nat.le_refl _);have y:=pl_p hW (r.evs.length+1);have z:(qI r).out.length<=100000000:=hW.ln (r.evs.length+1);refine yz 7<|ys<|yx 1<|ycf<|yk<|yx 2<|q9 (yR1 (.slice (d.map at0) a f) ?_);have l:((qI r).out:List Int)=qc8 r false:=by unfold qc8;rw[if_neg Bool.false_ne_true]
 rw[l]at h;exact⟨_,_,_,rfl,(h.ord [0]).eqv⟩
end Go.Proofs.YtjjcnhgpccancaaGreatDoor.X
