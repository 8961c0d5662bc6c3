/- What the proofs of LogFinishes need, part 3: the walks of the program's functions and the plain laws about them. -/
import Derived.Test.YtjjcnhgpccancaaGreatDoorQF2
import Derived.Laws.IdiomStrings
import Derived.Lib.AppendStr
import Derived.Laws.IdiomRangeMap
import Derived.Carry
set_option linter.unusedSimpArgs false
set_option linter.unusedVariables false
set_option maxHeartbeats 4000000
namespace Go.Proofs.YtjjcnhgpccancaaGreatDoor.X
open Go Go.RowKit Go.Proofs.YtjjcnhgpccancaaGreatDoor
theorem tabv_at (f:Nat->Bool)(k:Nat)(h:k<60):(qhl f)[k]? =some (.bool (f k)):=by simp[qhl,h]
theorem qlP {w:World}{t g o:Nat}{T:TS}{bk ps:Value}(h:Blk w t (T.vals g o bk ps) qar)(x:Int)(h0:0<=x)(h1:x<60):w.cell? ⟨t,28+x.toNat*1,none⟩=some (.bool (T.tabs x.toNat)):=by
  rw[h.cell];have d:∀(a b c:List Value) (k:Nat),k<b.length->(a++b++c)[a.length+k]? =b[k]? :=fun a b c k hk=>by
    rw[ie,iF (by omega),iw (by omega)];congr 1;omega
  have e:(qhl T.tabs).length=60:=by simp[qhl]
  unfold TS.vals;have:=d [.pointer (some ⟨g,0,none⟩),.pointer (some ⟨o,0,none⟩),
   .int .i64 T.cursor.x,.int .i64 T.cursor.y,.bool T.cursor.late,.bool T.cursor.sty.bold,.bool T.cursor.sty.under,.bool T.cursor.sty.turned,.int .i64 T.cursor.sty.fore,.int .i64 T.cursor.sty.back,
   .int .i64 T.saved.x,.int .i64 T.saved.y,.bool T.saved.late,.bool T.saved.sty.bold,.bool T.saved.sty.under,.bool T.saved.sty.turned,.int .i64 T.saved.sty.fore,.int .i64 T.saved.sty.back,
   .int .i64 T.away.x,.int .i64 T.away.y,.bool T.away.late,.bool T.away.sty.bold,.bool T.away.sty.under,.bool T.away.sty.turned,.int .i64 T.away.sty.fore,.int .i64 T.away.sty.back,
   .int .i64 T.top,.int .i64 T.bot] (qhl T.tabs)
  rw[iN];exact(this _ x.toNat (by rw[e];omega)).trans (tabv_at _ _ (by omega))
def tabN (T:TS):Nat->Int->Int
  |0,x=>x
  |k+1,x=>if x<T.grid.w-1/\T.tabs x.toNat=false then tabN T k (x+1)else x
def qoH (T:TS):TS:=qe4 T (tabN T 60 (T.cursor.x+1)) T.cursor.y
theorem tabN_go {T:TS}{k:Nat}{x y:Int}(h:tabN T (60-k) x=y)(hk:k<60)(h1:x<T.grid.w-1)(h2:T.tabs x.toNat=false):tabN T (60-(k+1)) (x+1)=y:=by
  rw[show 60-k=(60-(k+1))+1 by omega]at h;unfold tabN at h;rwa[if_pos ⟨h1,h2⟩]at h
theorem qlQ {T:TS}{k:Nat}{x y:Int}(h:tabN T (60-k) x=y)(h1:¬(x<T.grid.w-1/\T.tabs x.toNat=false)):y=x:=by
  cases hk:60-k with
  |zero=>rw[hk]at h;exact h.symm
  |succ n=>rw[hk]at h;unfold tabN at h;rw[if_neg h1]at h;exact h.symm
def qbi (T:TS)(b:Bool):TS:={T with cursor:=⟨T.cursor.x,T.cursor.y,b,T.cursor.sty⟩}
def qdp (T:TS)(c:Int):TS:=
  if c=8 then qe4 T (T.cursor.x-1) T.cursor.y
  else if c=9 then qoH T
  else if c=10 then qbi (qbv T) false
  else if c=11 then qbi (qbv T) false
  else if c=12 then qbi (qbv T) false
  else if c=13 then qe4 T 0 T.cursor.y
  else if c=14 then{T with shift:=((c:Int)==14)}
  else if c=15 then{T with shift:=((c:Int)==14)}
  else T
section
variable {W H:Int}{T:TS}
theorem qit (h:Lim W H T)(b:Bool):Lim W H (qbi T b):=h.cursor h.cu
theorem qlR (h:Lim W H T)(c:Int):Lim W H (qdp T c):=by
  unfold qdp
  repeat' split
  all_goals first|exact qc9 h _ _|exact qit (qbN h) _|exact{h with}|exact h
end
section
variable {w0 w:World}{F0:Nat->Prop}{l:List Asn}{x:Option (Nat×Nat)}{t:Nat}{T:TS}
theorem Sep.tab (h:Sep w0 F0 w l)(i:Nat)(y:Int)(hi:l[i]? =some (tmA x t T):=by rfl)(h0:0<=y:=by omega)(h1:y<60:=by omega):w.cell? ⟨t,28+y.toNat*1,none⟩=some (.bool (T.tabs y.toNat)):=by
 obtain⟨g,o,ba,bn,bc,pa,pn,pc,F,a,b,FB,FP,hI,hx⟩:=h.in hi;exact qlP hI.blk y h0 h1
end
theorem qaJ {w:World}{t:Nat}{W H:Int}{T:TS}{F:Nat->Prop}(hA:TermAt w t T F)(hT:qai w)(hL:Lim W H T)(x y:Int):CP 164 [pX t,iX x,iX y].toArray w fun e w'=>e= .returned (.tuple #[])/\TermAt w' t (qe4 T x y) (more F w w')/\Ch F w w':=move_at hA x y
theorem exec_at {w:World}{t:Nat}{W H:Int}{T:TS}{F:Nat->Prop}(hA0:TermAt w t T F)(hT:qai w)(hL:Lim W H T)(c:Int):CP 130 [pX t,uX c].toArray w fun e w'=>e= .returned (.tuple #[])/\TermAt w' t (qdp T c) (more F w w')/\Ch F w w':=by
 have h:=Sep.startT hA0;have hg:=Gz.of hA0;have hM:=hL;have N:=hM.all;refine yA Tryz.func130 rfl<|yx 1<|qa<|yx 2<|yc (rE c 8) (fun f=>?_) fun f=>?_
 ·refine zD [12] h fun u h=>yd (uL 0 12) [] (.l (h.tc 0 2) (.q6 (T.cursor.x-1) (.l (h.tc 0 3) .z)))<|yK 12 (yQ (h.met 0 fun F hA hF=>qaJ hA (h.tb hg hT) hL ((T.cursor.x-1)) (T.cursor.y)) fun u h=>?_);refine q8<|yDe (nB (qW ?_));refine h.tfin hg ?_;simp[qdp,qoH,qbi, *]
 refine yx 2<|yc (rE c 9) (fun g=>?_) fun g=>?_
 ·refine ysr<|yp 7 [] (.l (h.tc 0 2) (.q6 (T.cursor.x+1) .z))<|ye<|ys<|qa<|qV [0,4] (f':=[(0,pX t),(4,iX (T.cursor.x+1))])<|qw (σ:=Nat) (fun k=>[(0,pX t),(4,iX (T.cursor.x+1+(k:Int)))]) (fun k u=>k<=59/\tabN T (60-k) (T.cursor.x+1+(k:Int))=tabN T 60 (T.cursor.x+1)/\Sep w F u [qay t T]) (fun k=>60-k) 0 (by simp) ?_ ?_
  ·exact⟨by omega,by simp,h.cut rfl rfl⟩
  intro k u v O A;obtain⟨P,m,h⟩:=v;refine ys<|ysr ?_;obtain⟨Q,R,h⟩:=h.opn 0;refine yp 11 [] (.l (h.tg 0) (.l (h.gw 0).1 (.q6 (T.grid.w-1) .z)))<|yw [39] (rL (T.cursor.x+1+(k:Int)) (T.grid.w-1)) (fun B=>?_) fun B=>?_
  ·refine yp 19 [] (.i (T.cursor.x+1+(k:Int)) (60) (.l (h.tab 0 ((T.cursor.x+1+(k:Int)))) .z))<|ye<|yc (rN (rY (T.tabs ((T.cursor.x+1+(k:Int)):Int).toNat))) (fun o=>?_) fun o=>?_
   ·refine yk<|qa<|q7<|yp 3 [] (.q6 ((T.cursor.x+1+(k:Int))+1) .z)<|yE (nB (fun a ha=>A (k+1) _ ⟨by omega,by rw[show T.cursor.x+1+((k+1:Nat):Int)=(T.cursor.x+1+(k:Int))+1 by omega];exact tabN_go m (by omega) (by omega) (by assumption),h.cut rfl rfl⟩ (by show 60-(k+1)<60-k;omega) a (by rw[show(T.cursor.x+1+((k+1:Nat):Int))=(T.cursor.x+1+(k:Int))+1 by omega];exact ha.kp [0,4])))
   have C:=qlQ m (fun p=>by rw[o]at p;exact absurd p.2 (by decide));refine qm (eS (qd (qb (nS ?_))));refine q7<|yp 7 [] (.l (h.tc 0 3) .z)<|yo (yQ (h.met 0 fun F hA hF=>qaJ hA (h.tb hg hT) hL ((T.cursor.x+1+(k:Int))) (T.cursor.y)) fun u h=>?_);refine yE (nB (qW ?_));refine h.tfin hg ?_;simp[qdp,qoH,qbi, *]
  have C:=qlQ m (fun h=>by omega);refine yz 19<|ycf<|qm (eS (qd (qb (nS ?_))));refine q7<|yp 7 [] (.l (h.tc 0 3) .z)<|yo (yQ (h.met 0 fun F hA hF=>qaJ hA (h.tb hg hT) hL ((T.cursor.x+1+(k:Int))) (T.cursor.y)) fun u h=>?_);refine yE (nB (qW ?_));refine h.tfin hg ?_;simp[qdp,qoH,qbi, *]
 refine ys<|yx 2<|yc (rE c 10) (fun j=>?_) fun j=>?_
 ·refine yk<|yc (rE c 10) (fun b=>?_) fun b=>?_
  ·refine ysr<|yq 1<|yo (yQ (h.met 0 fun F hA hF=>qd1 hA (h.tb hg hT) hL) fun u h=>?_);refine ye<|q7<|yq 4 ?_;have q:Lim W H (qbv T):=(qbN hL)
   generalize D:(qbv T)=T22 at h q;have E:=q;have S:=E.all;refine yo (zT 0 ({T22 with cursor:=(Cur.mk T22.cursor.x T22.cursor.y false T22.cursor.sty)}:TS) h fun u h=>?_);refine yE (nB (qW ?_));subst D;refine h.tfin hg ?_;simp only[qdp,qoH,qbi,f,g,j,b,↓reduceIte,Int.reduceEq,Int.reduceLT,Int.reduceLE,sB]
  exfalso;omega
 refine yx 2<|yc (rE c 11) (fun b=>?_) fun b=>?_
 ·refine yk<|yc (rE c 11) (fun d=>?_) fun d=>?_
  ·refine ysr<|yq 1<|yo (yQ (h.met 0 fun F hA hF=>qd1 hA (h.tb hg hT) hL) fun u h=>?_);refine ye<|q7<|yq 4 ?_;have r:Lim W H (qbv T):=(qbN hL)
   generalize G:(qbv T)=T25 at h r;have I:=r;have U:=I.all;refine yo (zT 0 ({T25 with cursor:=(Cur.mk T25.cursor.x T25.cursor.y false T25.cursor.sty)}:TS) h fun u h=>?_);refine yE (nB (qW ?_));subst G;refine h.tfin hg ?_;simp only[qdp,qoH,qbi,f,g,j,b,d,↓reduceIte,Int.reduceEq,Int.reduceLT,Int.reduceLE,sB]
  exfalso;omega
 refine q7<|yz 2<|yc (rE c 12) (fun d=>?_) fun d=>?_
 ·refine ysr<|yq 1<|yo (yQ (h.met 0 fun F hA hF=>qd1 hA (h.tb hg hT) hL) fun u h=>?_);refine ye<|q7<|yq 4 ?_;have s:Lim W H (qbv T):=(qbN hL)
  generalize J:(qbv T)=T27 at h s;have K:=s;have V:=K.all;refine yo (zT 0 ({T27 with cursor:=(Cur.mk T27.cursor.x T27.cursor.y false T27.cursor.sty)}:TS) h fun u h=>?_);refine yE (nB (qW ?_));subst J;refine h.tfin hg ?_;simp only[qdp,qoH,qbi,f,g,j,b,d,↓reduceIte,Int.reduceEq,Int.reduceLT,Int.reduceLE,sB]
 refine yx 2<|yc (rE c 13) (fun L=>?_) fun L=>?_
 ·refine q7<|yp 6 [] (.l (h.tc 0 3) .z)<|yo (yQ (h.met 0 fun F hA hF=>qaJ hA (h.tb hg hT) hL (0) (T.cursor.y)) fun u h=>?_);refine yE (nB (qW ?_));refine h.tfin hg ?_;simp[qdp,qoH,qbi, *]
 refine ys<|yx 2<|yc (rE c 14) (fun M=>?_) fun M=>?_
 ·refine yk<|yc (rE c 14) (fun n=>?_) fun n=>?_
  ·refine q7<|yq 5<|yo (zT 0 ({T with shift:=((c:Int)==14)}:TS) h fun u h=>?_);refine yE (nB (qW ?_));refine h.tfin hg ?_;simp[qdp,qoH,qbi, *]
  exfalso;omega
 refine q7<|yz 2<|yc (rE c 15) (fun n=>?_) fun n=>?_
 ·refine q7<|yq 5<|yo (zT 0 ({T with shift:=((c:Int)==14)}:TS) h fun u h=>?_);refine yE (nB (qW ?_));refine h.tfin hg ?_;simp[qdp,qoH,qbi, *]
 refine qo (nB (qW ?_));refine h.tfin hg ?_;simp[qdp,qoH,qbi, *]
structure Ac where
 kind:Int
 rune:Int
 last:Int
 marks:ByteArray
 params:List Int
 text:ByteArray
abbrev qo0:TypeId:=190
def Ac.vals (a:Ac)(ps:Value):List Value:=[.int .i64 a.kind,.int .i32 a.rune,.int .u8 a.last,.string a.marks,ps,.string a.text]
def PS.vals (p:PS)(ps:Value):List Value:=[.int .i64 p.state,.int .u8 p.utf.b0,.int .u8 p.utf.b1,.int .u8 p.utf.b2,.int .i64 p.utf.n,.string p.marks,ps,.string p.text,.int .i64 p.within]
def E0:ByteArray:=ByteArray.empty
def atP (s:Int):PS:=⟨s,⟨0,0,0,0⟩,ByteArray.empty,[],ByteArray.empty,0⟩
def acP (r:Int):Ac:=⟨0,r,0,ByteArray.empty,[],ByteArray.empty⟩
def acX (c:Int):Ac:=⟨1,0,c,ByteArray.empty,[],ByteArray.empty⟩
def IntsAt (w:World)(k:IntKind)(o:Option Nat)(n c:Nat)(l:List Int)(K:Nat->Prop):Prop:=
 Rd w (o.map at0) (l.map (Value.int k))/\l.length=n/\(o=none->c=0)/\ ∀b,o=some b->K b/\b<w.heap.size
theorem IntsAt.ch {w w':World}{k:IntKind}{o:Option Nat}{n c:Nat}{l:List Int}{K B:Nat->Prop}(h:IntsAt w k o n c l K)(hc:Ch B w w')(hB:∀b,K b-> ¬B b):IntsAt w' k o n c l K:=
 ⟨h.1.ch hc fun ad e=>by
  cases o with
  |none=>cases e
  |some b=>cases e;exact hB b (h.2.2.2 b rfl).1,h.2.1,h.2.2.1,fun b e=>⟨(h.2.2.2 b e).1,ic (h.2.2.2 b e).2 hc.size⟩⟩
theorem IntsAt.mono {w:World}{k:IntKind}{o:Option Nat}{n c:Nat}{l:List Int}{K K':Nat->Prop}(h:IntsAt w k o n c l K)(hK:∀b,K b->K' b):IntsAt w k o n c l K':=
 ⟨h.1,h.2.1,h.2.2.1,fun b e=>⟨hK b (h.2.2.2 b e).1,(h.2.2.2 b e).2⟩⟩
theorem IntsAt.nil (w:World)(k:IntKind)(K:Nat->Prop):IntsAt w k none 0 0 [] K:=⟨Rd.nil _ _,rfl,fun _=>rfl,fun _ e=>by cases e⟩
def ActV (w:World)(vs:List Value)(a:Ac)(K:Nat->Prop):Prop:= ∃o n c,vs=a.vals (.slice (o.map at0) n c)/\IntsAt w .i64 o n c a.params K
structure ActsAt (w:World)(o:Option Nat)(n c:Nat)(l:List Ac)(K:Nat->Prop):Prop where
 ex:∃vss:List (List Value),Own w qo0 6 o n c vss.flatten/\vss.length=l.length/\ ∀i (h:i<l.length) (h':i<vss.length),ActV w vss[i] l[i] K
 len:l.length=n
 oK:∀b,o=some b->K b
theorem ActV.ch {w w':World}{vs:List Value}{a:Ac}{K B:Nat->Prop}(h:ActV w vs a K)(hc:Ch B w w')(hB:∀b,K b-> ¬B b):ActV w' vs a K:=by
 obtain⟨o,n,c,e,h⟩:=h;exact⟨o,n,c,e,h.ch hc hB⟩
theorem ActV.mono {w:World}{vs:List Value}{a:Ac}{K K':Nat->Prop}(h:ActV w vs a K)(hK:∀b,K b->K' b):ActV w vs a K':=by
 obtain⟨o,n,c,e,h⟩:=h;exact⟨o,n,c,e,h.mono hK⟩
theorem ActV.len {w:World}{vs:List Value}{a:Ac}{K:Nat->Prop}(h:ActV w vs a K):vs.length=6:=by
 obtain⟨o,n,c,rfl,h⟩:=h;rfl
theorem ActsAt.ch {w w':World}{o:Option Nat}{n c:Nat}{l:List Ac}{K B:Nat->Prop}(h:ActsAt w o n c l K)(hc:Ch B w w')(hB:∀b,K b-> ¬B b):ActsAt w' o n c l K:=by
 obtain⟨a,d,f,j⟩:=h.ex;exact⟨⟨a,d.ch hc fun g e=>hB g (h.oK g e),f,fun i hi k=>(j i hi k).ch hc hB⟩,h.len,h.oK⟩
theorem ActsAt.mono {w:World}{o:Option Nat}{n c:Nat}{l:List Ac}{K K':Nat->Prop}(h:ActsAt w o n c l K)(hK:∀b,K b->K' b):ActsAt w o n c l K':=by
 obtain⟨a,d,f,g⟩:=h.ex;exact⟨⟨a,d,f,fun i hi j=>(g i hi j).mono hK⟩,h.len,fun b e=>hK b (h.oK b e)⟩
theorem ActsAt.nil (w:World)(K:Nat->Prop):ActsAt w none 0 0 [] K:=⟨⟨[],Own.nil _ _ _,rfl,fun i h=>by simp at h⟩,rfl,fun b e=>by cases e⟩
theorem qn9 {vss:List (List Value)}(h:∀v∈vss,v.length=6){i:Nat}(hi:i<vss.length){k:Nat}(hk:k<6):vss.flatten[i*6+k]? =vss[i][k]? :=by
 induction vss generalizing i with
 |nil=>simp at hi
 |cons v vss ih=>
  have hv:=h v (jd ..);cases i with
  |zero=>simp[iw,hv,hk]
  |succ i=>
   rw[List.flatten_cons,iF (by omega),hv,show(i+1)*6+k-6=i*6+k by omega];exact ih (fun x hx=>h x (j6 _ hx)) (by simpa using hi)
theorem ActsAt.snoc {w w':World}{o o':Option Nat}{n c c':Nat}{l:List Ac}{a:Ac}{K K':Nat->Prop}{vs:List Value}{vss:List (List Value)}(h2:vss.length=l.length)(hl:l.length=n)
  (h3:∀i (h:i<l.length) (h':i<vss.length),ActV w' vss[i] l[i] K') (ha:ActV w' vs a K') (hO:Own w' qo0 6 o' (n+1) c' (vss.flatten++vs)) (hK:∀b,o'=some b->K' b):ActsAt w' o' (n+1) c' (l++[a]) K':=by
 refine⟨⟨vss++[vs],by simpa using hO,by simp[h2],fun i hi d=>?_⟩,by simp[hl],hK⟩;by_cases e:i<l.length
 ·rw[kw (by omega),kw e]
  exact h3 i e (by omega)
 ·rw[kv (by omega),kv (by omega)]
  simpa using ha
abbrev tInt:TypeId:=3
abbrev qna:TypeId:=21
theorem qN (l:List Int){k:IntKind}:((l.map (Value.int k)).all fun c=>c.oneCell')=true:=by
 refine j3.2 fun v hv=>?_;obtain⟨x,_,rfl⟩:=j7.1 hv;rfl
theorem qb5 (c:Int):(qf [c]).size=1:=rfl
theorem IntsAt.old {w:World}{k:IntKind}{o:Option Nat}{n c:Nat}{l:List Int}{K:Nat->Prop}{w0 w1:World}(h:IntsAt w k o n c l K):IntsAt w k o n c l (fun b=>o=some b\/(w0.heap.size<=b/\b<w1.heap.size)):=
 ⟨h.1,h.2.1,h.2.2.1,fun b e=>⟨.inl e,(h.2.2.2 b e).2⟩⟩
theorem IntsAt.or {w:World}{k:IntKind}{o:Option Nat}{n c:Nat}{l:List Int}{K A:Nat->Prop}(h:IntsAt w k o n c l K):IntsAt w k o n c l (fun b=>A b\/K b):=h.mono fun _ h=> .inr h
theorem ActsAt.one {w:World}{b:Nat}{K:Nat->Prop}{a:Ac}{ps:Value}(h:Blk w b (a.vals ps) qo0)(hb:K b)(hp:∃o n c,ps= .slice (o.map at0) n c/\IntsAt w .i64 o n c a.params K):ActsAt w (some b) 1 1 [a] K:=by
 obtain⟨o,n,c,rfl,hp⟩:=hp;refine⟨⟨[a.vals (.slice (o.map at0) n c)],?_,rfl,fun i hi d=>?_⟩,rfl,fun b' e=>by cases e;exact hb⟩
 ·simp only[List.flatten_cons,List.flatten_nil,iH]
  exact Own.blk h rfl (by decide)
 ·obtain rfl:i=0:=by simpa using hi
  exact⟨o,n,c,rfl,hp⟩
def Fed (w w':World)(e:Ending)(po:Option Nat)(p':PS)(l:List Ac):Prop:=
 ∃po' pn' pc' o n c,e= .returned (.tuple #[.agg (p'.vals (.slice (po'.map at0) pn' pc')).toArray,.slice (o.map at0) n c])/\
  IntsAt w' .i64 po' pn' pc' p'.params (fun b=>po=some b\/(w.heap.size<=b/\b<w'.heap.size))/\ActsAt w' o n c l (fun b=>(w.heap.size<=b/\b<w'.heap.size)/\po'≠some b)/\Ch (fun _=>False) w w'
theorem Fed.mk2 {w w':World}{e:Ending}{po:Option Nat}{p' q:PS}{l m:List Ac}(po':Option Nat)(pn' pc':Nat)(o:Option Nat)(n c:Nat)(he:e= .returned (.tuple #[.agg (p'.vals (.slice (po'.map at0) pn' pc')).toArray,.slice (o.map at0) n c]))
  (hp:IntsAt w' .i64 po' pn' pc' p'.params (fun b=>po=some b\/(w.heap.size<=b/\b<w'.heap.size))) (ha:ActsAt w' o n c l (fun b=>(w.heap.size<=b/\b<w'.heap.size)/\po'≠some b)) (hc:Ch (fun _=>False) w w') (hq:q=p'/\m=l):Fed w w' e po q m:=by
 obtain⟨rfl,rfl⟩:=hq;exact⟨po',pn',pc',o,n,c,he,hp,ha,hc⟩
theorem Fed.mk' {w w':World}{e:Ending}{po:Option Nat}{p' q:PS}{l m:List Ac}(po':Option Nat)(pn' pc':Nat)(o:Option Nat)(n c:Nat)(hx:(o=none/\n=0/\c=0/\l=[])\/ ∀b,po'=some b->b<w.heap.size)(he:e= .returned (.tuple #[.agg (p'.vals (.slice (po'.map at0) pn' pc')).toArray,.slice (o.map at0) n c]))
  (hp:IntsAt w' .i64 po' pn' pc' p'.params (fun b=>po=some b\/(w.heap.size<=b/\b<w'.heap.size))) (ha:ActsAt w' o n c l (fun b=>w.heap.size<=b/\b<w'.heap.size)) (hc:Ch (fun _=>False) w w') (hq:q=p'/\m=l):Fed w w' e po q m:=by
 refine Fed.mk2 po' pn' pc' o n c he hp ?_ hc hq;rcases hx with⟨rfl,rfl,rfl,rfl⟩|hx
 ·exact ActsAt.nil _ _
 ·exact ha.mono fun b hb=>⟨hb,fun e=>by have:=hx b e;omega⟩
def qbj (l:List Int):List Int:=if l.length=0 then[0]else l
theorem qgs (l:List Int):1<=(qbj l).length/\(qbj l).length<=max l.length 1:=by
 unfold qbj;split
 ·simp;omega
 ·omega
def qgt (l:List Int):Int:=l.getD (l.length-1) 0
def qfp (l:List Int)(x:Int):List Int:=l.set (l.length-1) x
theorem qaM {l:List Int}{a b:Int}(h:∀x∈l,a<=x/\x<=b)(h0:a<=0/\0<=b)(i:Nat):a<=l.getD i 0/\l.getD i 0<=b:=by
 rw[List.getD];by_cases hi:i<l.length
 ·rw[ig hi];exact h _ (jG _)
 ·rw[jn (by omega)];exact h0
theorem qlS {l:List Int}(h:∀x∈l,0<=x/\x<=9999):0<=qgt (qbj l)/\qgt (qbj l)<=9999:=by
 refine qaM (a:=0) (b:=9999) (fun x hx=>?_) (by decide) _;unfold qbj at hx;split at hx
 ·simp at hx;omega
 ·exact h x hx
theorem qoI {w:World}{b n c:Nat}{l:List Int}{i:Int}(h:Own w tInt 1 (some b) n c (l.map (Value.int .i64)))(hi:i=(n:Int)-1/\1<=n):w.cell? ⟨b,0+i.toNat*1,none⟩=some (.int .i64 (qgt l)):=by
 have hl:l.length=n:=by have:=h.1;rw[hZ]at this;omega
 refine qcg h.rd _ _ ?_;rw[iM,iN,show i.toNat=l.length-1 by omega,ig (by omega)];simp[qgt,List.getD,ig (show l.length-1<l.length by omega)]
theorem qjB {w w':World}{b n c:Nat}{l:List Int}{r:List Value}{i x:Int}(h:Own w tInt 1 (some b) n c (l.map (Value.int .i64)))(hr:r.length=(c-n)*1)(hi:i=(n:Int)-1/\1<=n)
  (hb:Blk w' b (put (l.map (Value.int .i64)++r) (0+i.toNat*1) [.int .i64 x]) tInt):Own w' tInt 1 (some b) n c ((qfp l x).map (Value.int .i64)):=by
 have hl:l.length=n:=by have:=h.1;rw[hZ]at this;omega
 rw[show i.toNat=n-1 by omega]at hb;have:=qkN (v:= .int .i64 x) h hr (by omega) hb;unfold qfp;rw[List.map_set,hl];exact this
def qz (p:PS)(s:Int):PS×List Ac:=(atP 0,[⟨if s=6 then 5 else 4,0,0,ByteArray.empty,[],p.text⟩])
def qs (p:PS)(c:Int):PS×List Ac:=
 if c<48 then(if(p.marks.size:Int)<2 then{p with marks:=p.marks++qf [c],state:=2}else{p with state:=2},[])
 else if p.state=1/\c=91 then(atP 3,[])
 else if p.state=1/\c=93 then(atP 5,[])
 else if p.state=1/\c=80 then(atP 6,[])
 else(atP 0,[⟨2,0,c,p.marks,[],ByteArray.empty⟩])
def qS (p:PS)(c:Int):PS×List Ac:=
 if c=27 then({p with within:=p.state,state:=7},[])
 else if c=7/\p.state=5 then qz p 5
 else if c=24\/c=26 then(atP 0,[])
 else if 32<=c/\(p.text.size:Int)<40 then({p with text:=p.text++qf [c]},[])
 else(p,[])
def qbE (p:PS)(c:Int):PS×List Ac:=
 if 48<=c/\c<=57 then({p with params:=qfp (qbj p.params) (min (10*qgt (qbj p.params)+(c-48)) 9999)},[])
 else if c=59 then(if((qbj p.params).length:Int)<8 then{p with params:=qbj p.params++[0]}else{p with params:=qbj p.params},[])
 else if 64<=c then(if p.state=4 then(atP 0,[])else(atP 0,[⟨3,0,c,p.marks,p.params,ByteArray.empty⟩]))
 else if(p.marks.size:Int)=2\/c=58 then({p with state:=4},[])
 else({p with marks:=p.marks++qf [c]},[])
def qa8 (e:TypeId)(sz:Nat)(o:Option Nat)(n cap:Nat)(xs:List Value):Asn:=
 ⟨fun w F=>Own w e sz o n cap xs/\ ∀b,o=some b->F b,fun h hc hn=>⟨h.1.ch hc fun b e=>hn b (h.2 b e),h.2⟩,fun h hF _=>⟨h.1,fun b e=>hF b (h.2 b e)⟩⟩
section
variable {w0 w w':World}{F0:Nat->Prop}{l:List Asn}{e:TypeId}{sz:Nat}{o:Option Nat}{n cap i:Nat}{xs:List Value}
theorem Sep.own (h:Sep w0 F0 w l)(i:Nat)(hi:l[i]? =some (qa8 e sz o n cap xs):=by rfl):Own w e sz o n cap xs:=by
 obtain⟨F,a,_⟩:=h.at hi;exact a.1
theorem Sep.newo (h:Sep w0 (fun _=>False) w l)(i:Nat)(hi:l[i]? =some (qa8 e sz o n cap xs):=by rfl):∀b,o=some b->w0.heap.size<=b/\b<w.heap.size:=fun b hb=>by
 obtain⟨F,h1,h2,h3⟩:=h.ex
 have:=h3 i b ((h1 i _ hi).2 b hb)
 exact⟨this.1.elim False.elim id,this.2⟩
theorem Sep.newb {b:Nat}{cs:List Value}{t:TypeId}(h:Sep w0 (fun _=>False) w l)(i:Nat)(hi:l[i]? =some (qbB b cs t):=by rfl):w0.heap.size<=b/\b<w.heap.size:=by
 obtain⟨F,a,d,c⟩:=h.ex;have:=c i b (a i _ hi).2;exact⟨this.1.elim False.elim id,this.2⟩
theorem Sep.nums {k:IntKind}{m:List Int}(h:Sep w0 (fun _=>False) w l)(i:Nat)(hi:l[i]? =some (qa8 e 1 o n cap (m.map (Value.int k))):=by rfl):IntsAt w k o n cap m (fun b=>w0.heap.size<=b/\b<w.heap.size):=
 have hO:=h.own i hi
 ⟨hO.rd,by have:=hO.1;rw[hZ]at this;omega,fun e=>(hO.2.2.2.1 e).2,fun b e=>⟨h.newo i hi b e,(h.newo i hi b e).2⟩⟩
theorem Sep.push {o':Option Nat}{n' cap':Nat}{zs:List Value}(h:Sep w0 F0 w l)(hi:l[i]? =some (qa8 e sz o n cap xs))(hO:Own w' e sz o' n' cap' zs)(hne:o'=o\/ ∃g,o'=some g/\w.heap.size<=g)(hc:Ch (fun b=>o=some b) w w'):Sep w0 F0 w' (l.set i (qa8 e sz o' n' cap' zs)):=by
 obtain⟨F,a,c,d⟩:=h.ex;have ho:=(a i _ hi).2;refine h.upd hi F a c d ⟨hO,fun b e=>?_⟩ (hc.mono fun b _ hb=>ho b hb);rcases hne with rfl|⟨g,rfl,hg⟩
 ·exact .inl (ho b e)
 ·obtain rfl:=ia e
  exact .inr ⟨hg,hO.lt⟩
theorem Sep.fresh {o':Option Nat}{n' cap':Nat}{zs:List Value}(h:Sep w0 F0 w l)(hO:Own w' e sz o' n' cap' zs)(hne:∀g,o'=some g->w.heap.size<=g)(hc:Ch (fun _=>False) w w'):Sep w0 F0 w' (l++[qa8 e sz o' n' cap' zs]):=
 h.add (G:=fun b=>o'=some b) ⟨hO,fun b e=>e⟩ (fun b e=>⟨hne b e,by subst e;exact hO.lt⟩) hc
end
section
variable {P:Program}{N:Nat}{ops:Array Oper}{Q:Exit->Act->World->Prop}{f:Fr}{k:Nat}{K:Act->World->Prop}{w0 w:World}{F0:Nat->Prop}{l:List Asn}
theorem zA {e:TypeId}{sz:Nat}{o:Option Nat}{n cap:Nat}{xs:List Value}{a2:Option Addr}{ys:List Value}(i bs m c2 t:Nat)(zs:List Value)(h:Sep w0 F0 w l)(hr:Rd w a2 ys)(h1:(ys.all fun c=>c.oneCell')=true)(hK:∀w' og cp,Sep w0 F0 w' (l.set i (qa8 e sz og t cp zs))->(0<t-> ∃g,og=some g)-> ∀a',Has N (pushd (dO ops k) (.slice (og.map at0) t cp) f) a'->K a' w')
  (ha:qjh P N ops f k=some (e,sz,bs,.slice (o.map at0) n cap,.slice a2 m c2,dO ops k):=by kernel_rfl) (hi:l[i]? =some (qa8 e sz o n cap xs):=by rfl) (ht:n+m=t:=by rfl) (hz:xs++ys=zs:=by rfl) (hy:ys.length=m*sz:=by rfl) (hn2:a2=none->c2=0:=by intro h;cases h)
  (hb:t<=maxLen/\t*bs<=140737488355328:=by constructor<;>first|omega|(simp only[maxLen];omega)):∀a,Has N f a->wpOp P ops Q k K a w:=
 qaE e sz bs o n cap xs a2 m c2 ys _ t ht zs hz ha (h.own i hi) hr hy h1 hn2 hb fun w' og cp hO hne hpos hc=>hK w' og cp (h.push hi hO hne hc) hpos
theorem zA0 {a2:Option Addr}{m c2:Nat}{ys:List Value}(e:TypeId)(sz bs:Nat)(h:Sep w0 F0 w l)(hr:Rd w a2 ys)(h1:(ys.all fun c=>c.oneCell')=true)(hy:ys.length=m*sz)(hn2:a2=none->c2=0)(hK:∀w' og cp,Sep w0 F0 w' (l++[qa8 e sz og m cp ys])->(0<m-> ∃g,og=some g)-> ∀a',Has N (pushd (dO ops k) (.slice (og.map at0) m cp) f) a'->K a' w')
  (ha:qjh P N ops f k=some (e,sz,bs,.slice ((none:Option Nat).map at0) 0 0,.slice a2 m c2,dO ops k):=by kernel_rfl) (hb:m<=maxLen/\m*bs<=140737488355328:=by constructor<;>first|omega|(simp only[maxLen];omega)):∀a,Has N f a->wpOp P ops Q k K a w:=
 qaE e sz bs none 0 0 [] a2 m c2 ys _ m (iJ m) ys rfl ha (Own.nil _ _ _) hr hy h1 hn2 hb fun w' og cp hO hne hpos hc=>hK w' og cp (h.fresh hO (fun g e=>hne.elim (fun h=>by rw[h]at e;cases e) fun⟨g',h,h'⟩=>by rw[h]at e;exact ia e▸h') (hc.mono fun _ _ h=>by cases h)) hpos
end
theorem qfh {P:Program}{N:Nat}{fn:Func}{f:Fr}{w0 w:World}{po:Option Nat}{q:PS}{m:List Ac}{cs:List (World->Prop)}{lv:List Value}(hp:Pf w cs lv)(p':PS)(l:List Ac)(po':Option Nat)(pn' pc':Nat)(o:Option Nat)(n c:Nat)(hx:(o=none/\n=0/\c=0/\l=[])\/ ∀b,po'=some b->b<w0.heap.size)
  (hi:IntsAt w .i64 po' pn' pc' p'.params (fun b=>po=some b\/(w0.heap.size<=b/\b<w.heap.size))) (ha:ActsAt w o n c l (fun b=>w0.heap.size<=b/\b<w.heap.size)) (hc:Ch (fun _=>False) w0 w) (hq:q=p'/\m=l)
  (hr:qol P f fn.results.toList lv=some ([.agg (p'.vals (.slice (po'.map at0) pn' pc')).toArray,.slice (o.map at0) n c],cs):=by kernel_rfl):∀a,Has N f a->bodyPost P fn (fun e w'=>Fed w0 w' e po q m) .ret a w:=
 yR2 _ hp (Fed.mk' (p':=p') (l:=l) po' pn' pc' o n c hx rfl hi ha hc hq) hr
theorem qdQ {P:Program}{N:Nat}{Q:Exit->Act->World->Prop}{f:Fr}{w:World}{x y:Code}{σ:Type}(f':σ->Fr)(I:σ->World->Prop)
  (h1:∀K:Act->World->Prop,(∀s u,I s u-> ∀a,Has N (f' s) a->K a u)->WC P N (Exit.then K Q) x f w) (h2:∀s u,I s u->WC P N Q y (f' s) u):WC P N Q (.seq x y) f w:=
 x_seq fun K hK=>h1 K fun s u hI a ha=>hK (f' s) u (h2 s u hI) a ha
section
variable {w0 w w':World}{F0:Nat->Prop}{l:List Asn}{i:Nat}
theorem SepOn.ch {is:List Nat}(h:SepOn w0 F0 l is w):Ch F0 w0 w:=h.elim fun _ h=>h.1.ch
theorem SepOn.rd {is:List Nat}{b o:Nat}{ys:List Value}(h:SepOn w0 (fun _=>False) l is w)(hr:Rd w0 (some ⟨b,o,none⟩) ys):Rd w (some ⟨b,o,none⟩) ys:=hr.ch h.ch fun _ _ h=>h
def gridA (p:Nat)(G:Gr):Asn:=⟨fun w F=>GridAt w p G F,fun h hc hn=>h.ch hc hn,fun h hF hl=>h.mono hF hl⟩
theorem Sep.grid {p:Nat}{G:Gr}(h:Sep w0 F0 w l)(i:Nat)(hi:l[i]? =some (gridA p G):=by rfl):∃F,GridAt w p G F:=by
 obtain⟨F,a,_⟩:=h.at hi;exact⟨F,a⟩
theorem Sep.own0 (h:Sep w0 F0 w l)(e:TypeId)(sz:Nat):Sep w0 F0 w (l++[qa8 e sz none 0 0 []]):=h.fresh (Own.nil w e sz) (fun g e=>by cases e) (Ch.refl _ _)
end
def AllS (p:Nat->Prop):List Nat->Prop
 |[]=>True
 |k::l=>p k/\AllS p l
theorem AllS.at {p:Nat->Prop}:∀{l:List Nat},AllS p l-> ∀k∈l,p k
 |k::l,h,j,hj=>by
  rcases j9.1 hj with rfl|hj
  ·exact h.1
  ·exact AllS.at h.2 j hj
theorem Sep.ord {w0 w:World}{F0:Nat->Prop}{l:List Asn}(h:Sep w0 F0 w l)(is:List Nat)(hn:is.Nodup:=by decide):Sep w0 F0 w (is.map fun i=>l.getD i nilA):=by
 obtain⟨F,a,c,d⟩:=h.ex;refine⟨h.ch,fun j b=> ∃i,is[j]? =some i/\F i b,fun j A e=>?_,fun j k g b hb m=>?_,fun j b hb=>?_⟩
 ·rw[iM]at e
  cases hi:is[j]? with
  |none=>rw[hi]at e;cases e
  |some i=>
   rw[hi]at e;obtain rfl:=ia e;have hA:(l.getD i nilA).P w (F i):=by
    rw[ik];cases hl:l[i]? with
    |none=>exact trivial
    |some A=>exact a i A hl
   exact Asn.to hA fun b=>⟨fun hb=>⟨i,hi,hb⟩,fun⟨i',e',hb⟩=>by obtain rfl:=ia (hi.symm.trans e');exact hb⟩
 ·obtain⟨i,hi,hF⟩:=hb
  obtain⟨i',n,o⟩:=m;refine c i i' (fun e=>?_) b hF o;subst e;obtain⟨r,p⟩:=io.1 hi;obtain⟨s,q⟩:=io.1 n;exact g ((List.getElem_inj hn).1 (p.trans q.symm))
 ·obtain⟨i,_,hF⟩:=hb
  exact d i b hF
def Apt (w:World)(F:Nat->Prop)(l:List Asn):Prop:=
  ∃Fs:Nat->Nat->Prop,(∀(i:Nat) (A:Asn),l[i]? =some A->A.P w (Fs i))/\(∀i j,i≠j-> ∀b,Fs i b-> ¬Fs j b)/\ ∀i b,Fs i b->F b
def qgu {X:Type}(l:X->List Asn):Asn:=
  ⟨fun w F=> ∃x,Apt w F (l x),fun⟨x,Fs,h1,h2,h3⟩ hc hn=>⟨x,Fs,fun i A e=>A.ch (h1 i A e) hc fun b hb=>hn b (h3 i b hb),h2,h3⟩,
   fun⟨x,Fs,h1,h2,h3⟩ hF _=>⟨x,Fs,h1,h2,fun i b hb=>hF b (h3 i b hb)⟩⟩
section
variable {w0 w:World}{F0:Nat->Prop}{l m:List Asn}{X:Type}{L:X->List Asn}
theorem Sep.of (h:Ch F0 w0 w)(Fs:Nat->Nat->Prop)(h1:∀(i:Nat) (A:Asn),l[i]? =some A->A.P w (Fs i))(h2:∀i j,i≠j-> ∀b,Fs i b-> ¬Fs j b)(h3:∀i b,Fs i b->(F0 b\/w0.heap.size<=b)/\b<w.heap.size):Sep w0 F0 w l:=⟨h,Fs,h1,h2,h3⟩
theorem Sep.eqv (h:Sep w0 F0 w l)(e:l=m:=by kernel_rfl):Sep w0 F0 w m:=e▸h
theorem Sep.unpack (h:Sep w0 F0 w l)(i:Nat)(hi:l[i]? =some (qgu L):=by rfl):∃x,Sep w0 F0 w (l.set i nilA++L x):=by
  obtain⟨F,f,c,g⟩:=h.ex;obtain⟨x,Fs,n,o,d⟩:=f i _ hi;have q:i<l.length:=(io.1 hi).1;refine⟨x,Sep.of h.ch (fun j b=>if j<l.length then j≠i/\F j b else Fs (j-l.length) b) (fun j A e=>?_) (fun j k p b hb a=>?_) (fun j b hb=>?_)⟩
  · rcases iL j l.length with hj|hj
    · rw[iw (by rw[iR];exact hj)]at e
      by_cases hji:j=i
      · subst hji
        rw[jq hj]at e;obtain rfl:=ia e;exact trivial
      · rw[jo (fun h=>hji h.symm)]at e
        exact Asn.to (f j A e) fun b=>by(try dsimp only);rw[if_pos hj];exact⟨fun hb=>⟨hji,hb⟩,fun hb=>hb.2⟩
    · rw[iF (by rw[iR];exact hj),iR]at e
      exact Asn.to (n _ A e) fun b=>by(try dsimp only);rw[if_neg (by omega)]
  · try dsimp only at hb a
    by_cases hj:j<l.length
    · rw[if_pos hj]at hb
      by_cases hk:k<l.length
      · rw[if_pos hk]at a;exact c j k p b hb.2 a.2
      · rw[if_neg hk]at a;exact c j i hb.1 b hb.2 (d _ b a)
    · rw[if_neg hj]at hb
      by_cases hk:k<l.length
      · rw[if_pos hk]at a;exact c i k (fun e=>a.1 e.symm) b (d _ b hb) a.2
      · rw[if_neg hk]at a;exact o _ _ (by omega) b hb a
  · try dsimp only at hb
    split at hb
    · exact g j b hb.2
    · exact g i b (d _ b hb)
theorem Sep.pack (x:X)(h:Sep w0 F0 w (l++L x)):Sep w0 F0 w (l++[qgu L]):=by
  obtain⟨F,d,c,f⟩:=h.ex;refine Sep.of h.ch (fun j b=>if j<l.length then F j b else j=l.length/\ ∃i,F (l.length+i) b) (fun j A e=>?_) (fun j k g b hb a=>?_) (fun j b hb=>?_)
  · rcases iL j l.length with hj|hj
    · rw[iw hj]at e
      exact Asn.to (d j A (by rw[iw hj];exact e)) fun b=>by(try dsimp only);rw[if_pos hj]
    · rw[iF hj]at e
      rcases jm (j-l.length)with n|n
      · rw[n]at e
        obtain rfl:=ia e;obtain rfl:j=l.length:=by omega
        refine⟨x,fun i b=>F (l.length+i) b,fun i A e=>d _ A (by rw[iF (by omega)];rwa[show l.length+i-l.length=i by omega]),fun i k p b=>c _ _ (by omega) b,fun i b hb=>?_⟩
        try dsimp only
        rw[if_neg (by omega)];exact⟨rfl,i,hb⟩
      · rw[jn (by simp only[iz,iP];omega)]at e;cases e
  · try dsimp only at hb a
    by_cases hj:j<l.length
    · rw[if_pos hj]at hb
      by_cases hk:k<l.length
      · rw[if_pos hk]at a;exact c j k g b hb a
      · rw[if_neg hk]at a
        obtain⟨_,i,a⟩:=a;exact c j _ (by omega) b hb a
    · rw[if_neg hj]at hb
      obtain⟨o,i,hb⟩:=hb;by_cases hk:k<l.length
      · rw[if_pos hk]at a;exact c _ k (by omega) b hb a
      · rw[if_neg hk]at a;exact g (o.trans a.1.symm)
  · try dsimp only at hb
    split at hb
    · exact f j b hb
    · obtain⟨_,i,hb⟩:=hb
      exact f _ b hb
theorem Sep.startP {F:Nat->Prop}(h:(qgu L).P w F)(hF:∀b,F b->b<w.heap.size):∃x,Sep w F w (L x):=by
  obtain⟨x,Fs,c,d,a⟩:=h;exact⟨x,Sep.of (Ch.refl _ _) Fs c d fun i b hb=>⟨.inl (a i b hb),hF b (a i b hb)⟩⟩
end
section
variable {P:Program}{N:Nat}{ops:Array Oper}{Q:Exit->Act->World->Prop}{f:Fr}{k:Nat}{K:Act->World->Prop}{w:World}
def qkR (P:Program)(N:Nat)(ops:Array Oper)(f:Fr)(k:Nat):Option (FuncId×List Value×Option Tmp):=
 match qfP N ops f k with
 |some (.call ⟨.value x,args,_⟩,d)=>match ev f x with
  |some (.func (.func g) ⟨[]⟩ ⟨[]⟩)=>if qer P g then(evs f args.toList).map fun vs=>(g,vs,d)else none
  |_=>none
 |_=>none
theorem e_callT {g:FuncId}{vs:List Value}{R:Ending->World->Prop}(d:Option Tmp)(h:qkR P N ops f k=some (g,vs,d))(hc:Calls P g vs.toArray w R)
  (hK:∀e w',R e w'-> ∃v,e= .returned v/\ ∀a',Has N (pushd d v f) a'->K a' w'):∀a,Has N f a->wpOp P ops Q k K a w:=by
 unfold qkR at h;split at h
 ·rename_i x l tys d' ho
  split at h
  ·rename_i g' hx
   split at h
   ·rename_i hg
    simp only[iB,ib]at h;obtain⟨b,hv,rfl,rfl,rfl⟩:=h;intro a ha;refine qau ho ha fun o' c hd i=>?_;unfold qer at hg;cases hf:P.funcs[g']? with
    |none=>rw[hf]at hg;cases hg
    |some fn=>
     rw[hf]at hg;simp only[ii,bne_iff_ne]at hg;have:(execOp a.eval o').run P w= .ok (.enter g' b.toArray) w:=by
      have e:=qbO ha hv;have j:=qC ha hx;have hn:fn.body.isNone=false:=by cases hb:fn.body<;>simp_all
      simp[execOp,c,resolve,e,j,Deferred.ofValue,invoke,callFunc,hf,hg.1];intro h;rw[h]at hn;cases hn
     simp only[Oper.wp,this,Oper.upon];rw[hd];refine Calls.mono hc fun e w' he=>?_;obtain⟨v,rfl,h⟩:=hK e w' he;exact h _ (ha.pushd i v)
   ·cases h
  ·cases h
 ·cases h
theorem yQT {g:FuncId}{vs:List Value}{v:Value}{A:World->Prop}(hc:Calls P g vs.toArray w fun e w'=>e= .returned v/\A w')(hK:∀w',A w'-> ∀a',Has N (pushd (dO ops k) v f) a'->K a' w')
  (h:qkR P N ops f k=some (g,vs,dO ops k):=by kernel_rfl):∀a,Has N f a->wpOp P ops Q k K a w:=e_callT _ h hc fun _ w' h=>⟨v,h.1,hK w' h.2⟩
def qe7 (s:ByteArray):List Value:=s.data.toList.map fun b=>Value.int .u8 b.toNat
theorem qg6 (s:ByteArray):(qe7 s).length=s.size:=by simp[qe7]
theorem bytV_get (s:ByteArray){i:Nat}(h:i<s.size):(qe7 s)[i]? =some (.int .u8 (bt s (i:Int))):=by
 unfold qe7 bt;rw[iM,ig (by simpa using h)];simp only[kB,il];rw[dif_pos h];rfl
def qlT (P:Program)(N:Nat)(ops:Array Oper)(f:Fr)(k:Nat):Option (ByteArray×Option Tmp):=
 match qfP N ops f k with
 |some (.convert s t x,d)=>match P.underlying s,P.underlying t,ev f x with
  |some .string,some (.slice e),some (.string u)=>match P.underlying e with
   |some (.int .u8)=>some (u,d)
   |_=>none
  |_,_,_=>none
 |_=>none
theorem qgv (u:ByteArray)(d:Option Tmp)(h:qlT P N ops f k=some (u,d))
  (hK:∀w' b cap,b=w.heap.size->w'.heap.size=w.heap.size+1->Rd w' (some ⟨b,0,none⟩) (qe7 u)->Ch (fun _=>False) w w'-> ∀a',Has N (pushd d (.slice (some ⟨b,0,none⟩) u.size cap) f) a'->K a' w'):∀a,Has N f a->wpOp P ops Q k K a w:=by
 intro a ha;unfold qlT at h;split at h
 ·rename_i s t x d' ho
  split at h
  ·rename_i e v hs ht hx
   split at h
   ·rename_i he
    simp only[ij,ib]at h;obtain⟨rfl,rfl⟩:=h;refine qau ho ha fun o' c hd g=>?_;have hc:=run_bytes_of_string (P:=P) w s t e v hs ht he;have:(execOp a.eval o').run P w= .ok (.value (.slice (some ⟨w.heap.size,0,none⟩) v.size (grownCap w v.size 0 e))) (w.drew.alloc (.cells (bytesRow v (grownCap w v.size 0 e)) e ((bytesRow v (grownCap w v.size 0 e)).size,(bytesRow v (grownCap w v.size 0 e)).size+1))):=by
     simp[execOp,c,qC ha hx,hc]
    simp only[Oper.wp,this,Oper.upon];rw[hd];refine hK _ w.heap.size _ rfl (by show(w.heap.push _).size=_;simp) ?_ ((Ch.drew _ _).trans (Ch.alloc _ _ _) (fun _ _ h=>h)) _ (ha.pushd g _);refine⟨(fun ea=>by cases ea),fun ad ea j y hj=>?_⟩;obtain rfl:=ia ea;have hl:=(io.1 hj).1;rw[qg6]at hl;rw[qaZ,iJ];have hb:=heap_alloc_new w.drew (.cells (bytesRow v (grownCap w v.size 0 e)) e ((bytesRow v (grownCap w v.size 0 e)).size,(bytesRow v (grownCap w v.size 0 e)).size+1));have i:w.drew.heap=w.heap:=rfl;rw[i]at hb;simp only[World.cell?,hb];unfold bytesRow;rw[Array.getElem?_append_left (by simpa using hl),<-hj];unfold qe7;simp
   ·cases h
  ·cases h
 ·cases h
end
section
variable {P:Program}{N:Nat}{ops:Array Oper}{Q:Exit->Act->World->Prop}{f:Fr}{k:Nat}{K:Act->World->Prop}{w:World}
def zeroB (z:Value):Bool:=match z with
 | .int .u8 n=>n==0
 |_=>false
theorem zeroB_eq {z:Value}(h:zeroB z=true):z= .int .u8 0:=by
 unfold zeroB at h;split at h
 ·rw[iU.1 h]
 ·cases h
def appSAt (P:Program)(N:Nat)(ops:Array Oper)(f:Fr)(k:Nat):Option (TypeId×Value×ByteArray×Option Tmp):=
 match qfP N ops f k with
 |some (.call ⟨.builtin .append,args,tys⟩,d)=>match tys.toList,evs f args.toList with
  |[t,t'],some [u,.string x]=>match P.underlying t,P.underlying t' with
   |some (.slice e),some .string=>match qfj P e,(P.info? e).bind (·.zero),(P.info? e).map (·.bytes)with
    |some sz,some z,some bs=>if sz=1/\zeroB z=true/\bs=1 then some (e,u,x,d)else none
    |_,_,_=>none
   |_,_=>none
  |_,_=>none
 |_=>none
structure App (w w':World)(o o':Option Nat):Prop where
 ch:Ch (fun b=>o=some b) w w'
 ne:o'=o\/ ∃g,o'=some g/\w.heap.size<=g
theorem App.refl (w:World)(o:Option Nat):App w w o o:=⟨Ch.refl _ _,.inl rfl⟩
theorem App.trans {w w1 w2:World}{o o1 o2:Option Nat}(h:App w w1 o o1)(k:App w1 w2 o1 o2):App w w2 o o2:=by
 refine⟨h.ch.trans k.ch fun i hi e=>?_,?_⟩
 ·rcases h.ne with rfl|⟨g,rfl,hg⟩
  ·exact e
  ·have:=ia e;omega
 ·have hs:=h.ch.size
  rcases k.ne with rfl|⟨g,rfl,hg⟩
  ·exact h.ne
  ·exact .inr ⟨g,rfl,by omega⟩
theorem App.step {w w1 w2:World}{o o1:Option Nat}{B:Nat->Prop}(h:App w w1 o o1)(k:Ch B w1 w2)(hB:∀i,i<w.heap.size-> ¬B i):App w w2 o o1:=by
 have hs:=h.ch.size;exact⟨h.ch.trans k fun i hi e=>absurd e (hB i hi),h.ne⟩
theorem App.apart {w w':World}{o o':Option Nat}(h:App w w' o o'){y:Nat}(hy:y<w.heap.size)(hn:∀b,o=some b-> ¬b=y):∀b,o'=some b-> ¬b=y:=fun b e=>by
 rcases h.ne with rfl|⟨g,rfl,hg⟩
 ·exact hn b e
 ·have:=ia e;omega
theorem App.not {w w':World}{o o':Option Nat}(_h:App w w' o o'){y:Nat}(hn:∀b,o=some b-> ¬b=y):¬o=some y:=fun e=>hn y e rfl
theorem run_appS {e:TypeId}{o:Option Nat}{n cap:Nat}{xs:List Value}{x:ByteArray}{t u ty:TypeId}{i:TypeInfo}(ht:P.underlying t=some (.slice e))(hu:P.underlying u=some .string)(hi:P.info? e=some i)(hz:i.zero=some (.int .u8 0))(hsz:i.size=1)(hby:i.bytes=1)
  (ho:Own w e 1 o n cap xs) (hb:n+x.size<=maxLen/\n+x.size<=140737488355328):
  ∃o' cap' w',(Builtin.append_ #[t,u] ty #[.slice (o.map at0) n cap,.string x]).run P w= .ok (.slice (o'.map at0) (n+x.size) cap') w'/\Own w' e 1 o' (n+x.size) cap' (xs++qe7 x)/\App w w' o o':=by
 have L:n+x.size<=9223372036854775807:=by have h:=hb.2;omega
 have j:(qe7 x).length=x.size:=qg6 x;cases o with
 |none=>
  obtain⟨rfl,rfl⟩:=ho.2.2.2.1 rfl;have hx:xs=[]:=iy (by simpa using ho.1);subst hx;obtain⟨v',w',a,d,q,M⟩:=Go.Lib.run_append_own_string (P:=P) w w.heap.size t u ty e i ht hu hi hz hsz hby _ 0 [] (World.ownsRow_nil w w.heap.size e 1) x hb.1 hb.2 (iE _);have l:Ch (fun b=>(none:Option Nat)=some b) w w':=(Ch.grown q).mono fun i _ hi=>by cases hi
  rcases d.2 with⟨rfl,s⟩|⟨g,cap',m,rfl,v,y,z,A,B,C⟩
  ·refine⟨none,0,w',?_,⟨d.1,by omega,ir _,fun _=>⟨by omega,rfl⟩,fun _ e=>by cases e⟩,⟨l,.inl rfl⟩⟩
   rw[s];exact a
  ·refine⟨some g,cap',w',a,⟨d.1,z,A,(fun e=>by cases e),fun g' e'=>?_⟩,⟨l,.inr ⟨g,rfl,v⟩⟩⟩
   obtain rfl:=ia e';refine⟨m.toList.drop ((0+x.size)*1),?_,?_⟩
   ·rw[iG,jZ,B,Nat.sub_mul]
   ·show w'.heap[g]? =_
    have D:m.toList.take ((0+x.size)*1)=[]++qe7 x:=C;rw[y,<-D,iV,jM]
 |some g=>
  obtain⟨r,hr,p⟩:=ho.2.2.2.2 g rfl;have c:xs.length=n:=by simpa using ho.1
  have O:=ho.2.1;by_cases hroom:n+x.size<=cap
  ·have E:r.length=cap-n:=by simpa using hr
   have a:=Go.Lib.run_append_room_string (P:=P) w t u ty e i ht hu hi hsz g n cap (xs++r).toArray p x hroom (by simp;omega);refine⟨some g,cap,_,a,⟨?_,hroom,ho.2.2.1,(fun e=>by cases e),fun g' e'=>?_⟩,⟨⟨rfl,rfl,rfl,by simp,fun k hk hn=>setRow_other w g k _ fun e=>hn (by rw[e])⟩,.inl rfl⟩⟩
   ·rw[hJ,j,c,iN]
   ·obtain rfl:=ia e'
    refine⟨r.drop x.size,by rw[iG,E];omega,?_⟩;have F:=setRow_heap w g _ (((xs++r).toArray.toList.take n++Go.Lib.strCells x++(xs++r).toArray.toList.drop (n+x.size)).toArray) e (0,0) p;refine F.trans ?_;have G:(xs++r).take n=xs:=by rw[<-c,jU]
    have H:(xs++r).drop (n+x.size)=r.drop x.size:=by rw[<-c,List.drop_append];simp
    show some (Obj.cells (((xs++r).take n++Go.Lib.strCells x++(xs++r).drop (n+x.size)).toArray) e (0,0))=_;rw[G,H];rfl
  ·have a:=Go.Lib.run_append_grow_string (P:=P) w t u ty e i (.int .u8 0) ht hu hi hz ⟨g,0,none⟩ n cap xs (by rw[hsz];exact ho.1) (ho.rd.2 _ rfl) x (by omega) (by omega) (by rw[hby];exact growslice_fits (by omega) (by omega))
   have I:=grownCap_ge w (n+x.size) cap e;have J:grownCap w (n+x.size) cap e<=maxLen:=grownCap_le_maxLen w (n+x.size) cap e hb.1;refine⟨some w.heap.size,_,_,a,⟨by rw[hJ,j,c,iN],I,J,(fun e=>by cases e),fun g' e'=>?_⟩,⟨(Ch.drew _ _).trans (Ch.alloc _ _ _) (fun _ _ h=>h),.inr ⟨_,rfl,iE _⟩⟩⟩;obtain rfl:=ia e';refine⟨(Builtin.zeroCells (Value.int .u8 0).cells (grownCap w (n+x.size) cap e-(n+x.size))).toList,?_,?_⟩
   ·rw[jZ,size_zeroCells];rfl
   ·refine(heap_alloc_new w.drew _).trans ?_
    congr 2;apply Array.ext';simp[Go.Lib.strCells,qe7]
theorem e_appS (e:TypeId)(o:Option Nat)(n cap:Nat)(xs:List Value)(x:ByteArray)(d:Option Tmp)(t:Nat)(ht:n+x.size=t)
  (h:appSAt P N ops f k=some (e,.slice (o.map at0) n cap,x,d))
  (ho:Own w e 1 o n cap xs) (hb:t<=maxLen/\t<=140737488355328)
  (hK:∀w' o' cap',Own w' e 1 o' t cap' (xs++qe7 x)->App w w' o o'-> ∀a',Has N (pushd d (.slice (o'.map at0) t cap') f) a'->K a' w'):∀a,Has N f a->wpOp P ops Q k K a w:=by
 subst ht;intro a ha;unfold appSAt at h;split at h
 ·rename_i y tys d' j
  split at h
  ·rename_i t t' u' x' ht hv
   split at h
   ·rename_i e' hu l
    split at h
    ·rename_i sz z bs hs hz b
     split at h
     ·rename_i hc
      obtain⟨rfl,m,rfl⟩:=hc;obtain rfl:=zeroB_eq m;simp only[ij,ib]at h;obtain⟨rfl,rfl,rfl,rfl⟩:=h;obtain⟨i,hi,p⟩:=qcI hs;rw[hi]at hz b;have q:tys= #[t,t']:=by apply js.1;simpa using ht
      refine qau j ha fun o' c hd r=>?_;have he:=qbO ha hv;obtain⟨g,cap',w',s,u,v⟩:=run_appS (P:=P) (ty:=o'.type) hu l hi (by simpa using hz) p (by simpa using b) ho hb;have:(execOp a.eval o').run P w= .ok (.value (.slice (g.map at0) (n+x'.size) cap')) w':=by
       rw[q]at c;simp[execOp,c,resolve,he,invoke,builtin,s]
      simp only[Oper.wp,this,Oper.upon];rw[hd];exact hK w' g cap' u v _ (ha.pushd r _)
     ·cases h
    ·cases h
   ·cases h
  ·cases h
 ·cases h
theorem App.of {w w':World}{o o':Option Nat}(hne:o'=o\/ ∃g,o'=some g/\w.heap.size<=g)(hc:Ch (fun b=>o=some b) w w'):App w w' o o':=⟨hc,hne⟩
theorem e_copyS (b o dl dc:Nat)(x:ByteArray){cs:List Value}{T:TypeId}(d:Option Tmp)
  (h:qhv P N ops f k=some (1,.slice (some ⟨b,o,none⟩) dl dc,.string x,d))
  (hb:Blk w b cs T) (hx:x.size<=dl) (hfit:o+x.size<=cs.length)
  (hK:∀w',Blk w' b (put cs o (qe7 x)) T->Ch (fun k=>k=b) w w'-> ∀a',Has N (pushd d (.int .i64 (x.size:Nat)) f) a'->K a' w'):
  ∀a,Has N f a->wpOp P ops Q k K a w:=by
 intro a ha;have j:∀u∈qe7 x,u.oneCell'=true:=fun u hu=>by
  unfold qe7 at hu;obtain⟨c,_,rfl⟩:=j7.1 hu;rfl
 have l:=qg6 x;unfold qhv at h;split at h
 ·rename_i y tys d' ho
  split at h
  ·rename_i t t' u' v' ht hv
   split at h
   ·rename_i e hu
    split at h
    ·rename_i z hs
     simp only[ij,ib]at h;obtain⟨rfl,rfl,rfl,rfl⟩:=h;obtain⟨i,hi,m⟩:=qcI hs;have n:tys= #[t,t']:=by apply js.1;simpa using ht
     refine qau ho ha fun o' g hd p=>?_;have he:=qbO ha hv;have q:Nat.min x.size dl=x.size:=jK hx;have r:=Go.Lib.run_firstCells_string (P:=P) w 1 x;have s:=run_storeCells_at P b o T (qe7 x) 0 cs.toArray w hb (by rw[l];simpa using hfit) j;have v:(Builtin.copy_ #[t,t'] o'.type #[.slice (some ⟨b,o,none⟩) dl dc,.string x]).run P w= .ok (.int .i64 (x.size:Nat)) (w.setRow b (put cs o (qe7 x)).toArray):=by
      simp[Builtin.copy_,run_underlying hu,Builtin.lenOf,sizeOf,typeInfo,hi,m,q,r,goInt];rw[show(storeCells ⟨b,o,none⟩ (Go.Lib.strCells x)).run P w=_ from s];simp[put]
     have:(execOp a.eval o').run P w= .ok (.value (.int .i64 (x.size:Nat))) (w.setRow b (put cs o (qe7 x)).toArray):=by
      rw[n]at g;simp[execOp,g,resolve,he,invoke,builtin,v]
     simp only[Oper.wp,this,Oper.upon];rw[hd];exact hK _ (hb.set _) (Ch.setRow _ _ _) _ (ha.pushd p _)
    ·cases h
   ·cases h
  ·cases h
 ·cases h
theorem e_copyS' (b o dl dc:Nat)(x:ByteArray){cs:List Value}{T:TypeId}(d:Option Tmp)(t:Int)(ht:(x.size:Int)=t)
  (h:qhv P N ops f k=some (1,.slice (some ⟨b,o,none⟩) dl dc,.string x,d))
  (hb:Blk w b cs T) (hx:x.size<=dl) (hfit:o+x.size<=cs.length)
  (hK:∀w',Blk w' b (put cs o (qe7 x)) T->Ch (fun k=>k=b) w w'-> ∀a',Has N (pushd d (.int .i64 t) f) a'->K a' w'):
  ∀a,Has N f a->wpOp P ops Q k K a w:=by
 subst ht;exact e_copyS b o dl dc x d h hb hx hfit hK
end
section
variable {w0 w w':World}{F0:Nat->Prop}{l:List Asn}{i j b:Nat}{e t:TypeId}{sz:Nat}{o o':Option Nat}{n cap n' cap':Nat}{xs zs cs:List Value}
theorem Sep.startO (h:Own w e sz o n cap xs):Sep w (fun k=>o=some k) w [qa8 e sz o n cap xs]:=
 Sep.one (A:=qa8 e sz o n cap xs) ⟨h,fun _ e=>e⟩ fun b e=>by subst e;exact h.lt
theorem Sep.neo (h:Sep w0 F0 w l)(i j:Nat)(hij:i≠j:=by decide)(hi:l[i]? =some (qa8 e sz o n cap xs):=by rfl)(hj:l[j]? =some (qbB b cs t):=by rfl):∀x,o=some x-> ¬x=b:=fun x hx hb=>by
 obtain⟨F,h1,h2,h3⟩:=h.ex
 exact h2 i j hij x ((h1 i _ hi).2 x hx) (hb▸(h1 j _ hj).2)
theorem Sep.app0 (h:Sep w0 F0 w l)(hO:Own w' e sz o' n' cap' zs)(hA:App w w' none o'):Sep w0 F0 w' (l++[qa8 e sz o' n' cap' zs]):=
 h.fresh hO (fun g hg=>hA.ne.elim (fun h=>by rw[h]at hg;cases hg) fun⟨g',h,h'⟩=>by rw[h]at hg;exact ia hg▸h') (hA.ch.mono fun _ _ h=>by cases h)
theorem Sep.appI (h:Sep w0 F0 w l)(i:Nat)(hO:Own w' e sz o' n' cap' zs)(hA:App w w' o o')(hi:l[i]? =some (qa8 e sz o n cap xs):=by rfl):Sep w0 F0 w' (l.set i (qa8 e sz o' n' cap' zs)):=h.push hi hO hA.ne hA.ch
theorem Sep.finA (h:Sep w0 (fun k=>o=some k) w l)(i:Nat)(hi:l[i]? =some (qa8 e sz o' n' cap' zs):=by rfl)(hp:0<n':=by omega):Own w e sz o' n' cap' zs/\App w0 w o o':=by
 obtain⟨F,c,f,d⟩:=h.ex;obtain⟨hO,hF⟩:=c i _ hi;refine⟨hO,h.ch,?_⟩;cases ho:o' with
 |none=>have:=(hO.2.2.2.1 ho).1;omega
 |some g=>
  rcases(d i g (hF g ho)).1 with a|a
  ·exact .inl a.symm
  ·exact .inr ⟨g,rfl,a⟩
theorem Sep.isO (h:Sep w0 F0 w l)(i:Nat)(hi:l[i]? =Option.some (qa8 e sz o n cap xs):=by rfl)(hp:0<n:=by omega):∃b,o=Option.some b:=by
 have hO:=h.own i hi;cases ho:o with
 |none=>have:=(hO.2.2.2.1 ho).1;omega
 |some g=>exact⟨g,rfl⟩
theorem Sep.newO (h:Sep w0 (fun _=>False) w l)(i:Nat)(hi:l[i]? =Option.some (qa8 e sz o n cap xs):=by rfl):Own w e sz o n cap xs/\App w0 w none o:=by
 obtain⟨F,a,d,c⟩:=h.ex;obtain⟨hO,hF⟩:=a i _ hi;refine⟨hO,h.ch.mono fun _ _ h=>h.elim,?_⟩;cases ho:o with
 |none=>exact .inl rfl
 |some g=>exact .inr ⟨g,rfl,(c i g (hF g ho)).1.resolve_left fun h=>h⟩
theorem Sep.no (h:Sep w0 (fun _=>False) w l):App w0 w none none:=⟨h.ch.mono fun _ _ h=>h.elim,.inl rfl⟩
theorem Own.len1 (h:Own w e 1 o n cap zs):zs.length=n:=by have:=h.1;omega
theorem Sep.len1 (h:Sep w0 F0 w l)(i:Nat)(hi:l[i]? =Option.some (qa8 e 1 o n cap xs):=by rfl):xs.length=n:=(h.own i hi).len1
theorem Sep.brd (h:Sep w0 F0 w l)(i:Nat)(hi:l[i]? =Option.some (qa8 e sz (Option.some b) n cap xs):=by rfl):Rd w (Option.some ⟨b,0,none⟩) xs:=(h.own i hi).rd
theorem Sep.ownRd' (h:Sep w0 F0 w l)(i:Nat)(hi:l[i]? =Option.some (qa8 e sz o n cap xs):=by rfl):Rd w (o.map at0) xs:=(h.own i hi).rd
end
def Ob (w:World)(b:Nat)(o:Obj):Prop:=w.heap[b]? =some o
theorem Ob.lt {w:World}{b:Nat}{o:Obj}(h:Ob w b o):b<w.heap.size:=(ku.1 h).1
theorem Ob.ch {w w':World}{b:Nat}{o:Obj}{B:Nat->Prop}(h:Ob w b o)(hc:Ch B w w')(hn:¬B b):Ob w' b o:=(hc.block b h.lt hn).trans h
def qkG (b:Nat)(o:Obj):Asn:=⟨fun w F=>Ob w b o/\F b,fun h hc hn=>⟨h.1.ch hc (hn b h.2),h.2⟩,fun h hF _=>⟨h.1,hF b h.2⟩⟩
section
variable {w0 w w':World}{F0:Nat->Prop}{l:List Asn}{i b:Nat}{o o':Obj}
theorem Sep.ob (h:Sep w0 F0 w l)(i:Nat)(hi:l[i]? =some (qkG b o):=by rfl):Ob w b o:=by
 obtain⟨F,a,_⟩:=h.at hi;exact a.1
theorem Sep.setOb (h:Sep w0 F0 w l)(hi:l[i]? =some (qkG b o))(hb:Ob w' b o')(hc:Ch (fun k=>k=b) w w'):Sep w0 F0 w' (l.set i (qkG b o')):=by
 obtain⟨F,a,c,d⟩:=h.ex;have hF:F i b:=(a i _ hi).2;exact h.upd hi F a c d ⟨hb,.inl hF⟩ (hc.mono fun _ _ e=>e▸hF)
theorem Sep.newOb (h:Sep w0 F0 w l)(hb:Ob w' b o)(e:b=w.heap.size)(hc:Ch (fun _=>False) w w'):Sep w0 F0 w' (l++[qkG b o]):=
 h.add (A:=qkG b o) (G:=fun k=>k=b) ⟨hb,rfl⟩ (fun k hk=>⟨by omega,by have:=hb.lt;omega⟩) hc
end
theorem ob_new (w:World)(o:Obj):Ob (w.alloc o) w.heap.size o:=heap_alloc_new w o
def setO (w:World)(b:Nat)(o:Obj):World:={w with heap:=w.heap.setIfInBounds b o}
theorem qoJ (w:World)(b:Nat)(o:Obj):Ch (fun k=>k=b) w (setO w b o):=
 ⟨rfl,rfl,rfl,by simp[setO],fun k _ hn=>by simp only[setO];rw[Array.getElem?_setIfInBounds_ne (fun e=>hn e.symm)]⟩
theorem qoK {w:World}{b:Nat}{o:Obj}(h:b<w.heap.size):Ob (setO w b o) b o:=by simp[Ob,setO,h]
theorem qfq {P:Program}{w:World}{b:Nat}{o o':Obj}(h:Ob w b o)(hn:∀c e f,o≠ .cells c e f:=by intro _ _ _ e;cases e):(setObj b o').run P w= .ok () (setO w b o'):=by
 simp only[setObj,Sem.run];rw[show w.heap[b]? =some o from h];cases o
 case cells c e f=>exact absurd rfl (hn c e f)
 all_goals rfl
theorem qbS {P:Program}{w:World}{b:Nat}{o:Obj}(h:Ob w b o)(hn:∀c e f,o≠ .cells c e f:=by intro _ _ _ e;cases e):(getObj b).run P w= .ok o w:=by
 simp only[getObj,Sem.run];rw[show w.heap[b]? =some o from h];cases o
 case cells c e f=>exact absurd rfl (hn c e f)
 all_goals rfl
section
variable {P:Program}{N:Nat}{ops:Array Oper}{Q:Exit->Act->World->Prop}{f:Fr}{k:Nat}{K:Act->World->Prop}{w w0:World}{F0:Nat->Prop}{l:List Asn}
def mkAt (N:Nat)(ops:Array Oper)(f:Fr)(k:Nat):Option (Option Tmp):=
 match qfP N ops f k with
 |some (.makeMap _ none,d)=>some d
 |_=>none
theorem zMk (h:Sep w0 F0 w l)(hK:∀w' b,Sep w0 F0 w' (l++[qkG b (.map #[] 0)])-> ∀a',Has N (pushd (dO ops k) (.map (some b)) f) a'->K a' w')(hs:mkAt N ops f k=some (dO ops k):=by kernel_rfl):∀a,Has N f a->wpOp P ops Q k K a w:=by
 intro a ha;unfold mkAt at hs;split at hs
 ·rename_i t d ho
  rw[<-ia hs]at hK;refine qau ho ha fun o' c hd e=>?_;have:(execOp a.eval o').run P w= .ok (.value (.map (some w.heap.size))) (w.alloc (.map #[] 0)):=by
   simp[execOp,c,run_makeMap]
  simp only[Oper.wp,this,Oper.upon];rw[hd];exact hK _ _ (h.newOb (ob_new w _) rfl (Ch.alloc _ _ _)) _ (ha.pushd e _)
 ·cases hs
theorem qnb {P:Program}{w:World}{t:TypeId}{s:ByteArray}(ht:P.underlying t=some .string)(e:Bool)(n:Nat):(Instr.checkKey e (n+1) t (.string s)).run P w= .ok () w:=by
 simp[Instr.checkKey,qL ht]
theorem qeI {P:Program}{w:World}{t:TypeId}{s:ByteArray}(ht:P.underlying t=some .string)(e:Bool):(Instr.checkKey e 10000 t (.string s)).run P w= .ok () w:=qnb ht e 9999
theorem qg7 {P:Program}{w:World}{t:TypeId}{s:ByteArray}{es:List MapEntry}{r:Option (Nat×Value)}(ht:P.underlying t=some .string)(hr:Instr.findNow .string (.string s) es 0=some r):(Instr.findKey t (.string s) es).run P w= .ok r w:=by
 simp[Instr.findKey,qL ht,hr]
def lkAt (P:Program)(N:Nat)(ops:Array Oper)(f:Fr)(k:Nat)(es:List MapEntry):Option (Nat×Value×Option Tmp):=
 match qfP N ops f k with
 |some (.lookup t m x false,d)=>match ev f m,ev f x,P.underlying t with
  |some (.map (some b)),some (.string s),some (.map kt e)=>match P.underlying kt with
   |some .string=>match Instr.findNow .string (.string s) es 0 with
    |some (some (_,v))=>some (b,v,d)
    |some none=>match(P.info? e).bind (·.zero)with
     |some z=>some (b,z,d)
     |none=>none
    |none=>none
   |_=>none
  |_,_,_=>none
 |_=>none
theorem zLk {b:Nat}{es:List MapEntry}{c:Nat}(hb:Ob w b (.map es.toArray c))(v:Value)(hK:∀a',Has N (pushd (dO ops k) v f) a'->K a' w)(hs:lkAt P N ops f k es=some (b,v,dO ops k):=by kernel_rfl):∀a,Has N f a->wpOp P ops Q k K a w:=by
 intro a ha;unfold lkAt at hs;split at hs
 ·rename_i t m x d ho
  split at hs
  ·rename_i b' s kt e hm hx ht
   split at hs
   ·rename_i g
    have go:∀V,d=dO ops k->b'=b->(Instr.lookup t (.map (some b')) (.string s) false).run P w= .ok V w->V=v->wpOp P ops Q k K a w:=fun V q A r hv=>by
     subst hv;rw[<-q]at hK;refine qau ho ha fun o' u hd y=>?_;have:(execOp a.eval o').run P w= .ok (.value V) w:=by
      simp[execOp,u,qC ha hm,qC ha hx,r]
     simp only[Oper.wp,this,Oper.upon];rw[hd];exact hK _ (ha.pushd y _)
    split at hs
    ·rename_i n v' hf
     simp only[ij,ib]at hs;obtain⟨h,j,p⟩:=hs;subst h;refine go v' p rfl ?_ j;unfold Instr.lookup;simp[qL ht,qbS hb,qeI g,qg7 (w:=w) g hf]
    ·rename_i hf
     split at hs
     ·rename_i z hz
      simp only[ij,ib]at hs;obtain⟨h,j,p⟩:=hs;subst h;refine go z p rfl ?_ j;unfold Instr.lookup;simp[qL ht,qbS hb,qeI g,qg7 (w:=w) g hf,qeq hz]
     ·cases hs
    ·cases hs
   ·cases hs
  ·cases hs
 ·cases hs
def upE (es:List MapEntry)(c:Nat)(s:ByteArray)(v:Value):Option (List MapEntry×Nat):=
 match Instr.findNow .string (.string s) es 0 with
 |some (some (i,_))=>match es[i]? with
  |some e=>if Instr.sameBits 10000 e.key (.string s)=true then some (es.modify i fun e=>{e with key:= .string s,val:=v},c)else none
  |none=>none
 |some none=>some (es++[{key:= .string s,val:=v,born:=c}],c+1)
 |none=>none
def upAt (P:Program)(N:Nat)(ops:Array Oper)(f:Fr)(k:Nat)(es:List MapEntry)(c:Nat):Option (Nat×(List MapEntry×Nat)×Option Tmp):=
 match qfP N ops f k with
 |some (.mapUpdate t m x y,d)=>match ev f m,ev f x,ev f y,P.underlying t with
  |some (.map (some b)),some (.string s),some v,some (.map kt _)=>match P.underlying kt with
   |some .string=>match upE es c s v with
    |some r=>some (b,r,d)
    |none=>none
   |_=>none
  |_,_,_,_=>none
 |_=>none
theorem zUp {b:Nat}{es es':List MapEntry}{c c':Nat}(h:Sep w0 F0 w l)(i:Nat)(hs:upAt P N ops f k es c=some (b,(es',c'),dO ops k))(hK:∀w',Sep w0 F0 w' (l.set i (qkG b (.map es'.toArray c')))-> ∀a',Has N (pushd (dO ops k) undef f) a'->K a' w')(hi:l[i]? =some (qkG b (.map es.toArray c)):=by rfl):∀a,Has N f a->wpOp P ops Q k K a w:=by
 have hb:=h.ob i hi;intro a ha;unfold upAt at hs;split at hs
 ·rename_i t m x y d ho
  split at hs
  ·rename_i b' s v kt e hm hx hy ht
   split at hs
   ·rename_i g
    split at hs
    ·rename_i r hu
     simp only[ij,ib]at hs;obtain⟨rfl,rfl,n⟩:=hs;rw[<-n]at hK;refine qau ho ha fun o' p hd q=>?_;have z:(Instr.mapUpdate t (.map (some b')) (.string s) v).run P w= .ok () (setO w b' (.map es'.toArray c')):=by
      unfold upE at hu;unfold Instr.mapUpdate;split at hu
      ·rename_i j u hf
       split at hu
       ·rename_i B he
        split at hu
        ·rename_i A
         simp only[ij,ib]at hu;obtain⟨rfl,rfl⟩:=hu;simp[qL ht,qbS hb,qeI g,qg7 (w:=w) g hf,Instr.keyThatStays,he,A,qfq hb]
        ·cases hu
       ·cases hu
      ·rename_i hf
       simp only[ij,ib]at hu;obtain⟨rfl,rfl⟩:=hu;simp[qL ht,qbS hb,qeI g,qg7 (w:=w) g hf,qfq hb]
      ·cases hu
     have:(execOp a.eval o').run P w= .ok .skip (setO w b' (.map es'.toArray c')):=by
      simp[execOp,p,qC ha hm,qC ha hx,qC ha hy,z]
     simp only[Oper.wp,this,Oper.upon];rw[hd];exact hK _ (h.setOb hi (qoK hb.lt) (qoJ _ _ _)) _ (ha.pushd q _)
    ·cases hs
   ·cases hs
  ·cases hs
 ·cases hs
def rgAt (P:Program)(N:Nat)(ops:Array Oper)(f:Fr)(k:Nat):Option (Nat×Option Tmp):=
 match qfP N ops f k with
 |some (.range t m,d)=>match ev f m,P.underlying t with
  |some (.map (some b)),some (.map _ _)=>some (b,d)
  |_,_=>none
 |_=>none
theorem zRg {b:Nat}{es:List MapEntry}{c:Nat}(h:Sep w0 F0 w l)(hb:Ob w b (.map es.toArray c))(hK:∀w' r,Sep w0 F0 w' (l++[qkG r (.mapIter (some b) c #[] c)])-> ∀a',Has N (pushd (dO ops k) (.pointer (some ⟨r,0,none⟩)) f) a'->K a' w')(hs:rgAt P N ops f k=some (b,dO ops k):=by kernel_rfl):∀a,Has N f a->wpOp P ops Q k K a w:=by
 intro a ha;unfold rgAt at hs;split at hs
 ·rename_i t m d ho
  split at hs
  ·rename_i b' kt e hm ht
   simp only[ij,ib]at hs;obtain⟨rfl,g⟩:=hs;rw[<-g]at hK;refine qau ho ha fun o' j hd n=>?_;have:(execOp a.eval o').run P w= .ok (.value (.pointer (some ⟨w.heap.size,0,none⟩))) (w.alloc (.mapIter (some b') c #[] c)):=by
    simp[execOp,j,qC ha hm,run_range_map w t kt e b' es.toArray c ht hb]
   simp only[Oper.wp,this,Oper.upon];rw[hd];exact hK _ _ (h.newOb (ob_new w _) rfl (Ch.alloc _ _ _)) _ (ha.pushd n _)
  ·cases hs
 ·cases hs
def nxAt (N:Nat)(ops:Array Oper)(f:Fr)(k:Nat):Option (Nat×Option Tmp):=
 match qfP N ops f k with
 |some (.next x false,d)=>match ev f x with
  |some (.pointer (some ⟨r,0,none⟩))=>some (r,d)
  |_=>none
 |_=>none
def nxE (es:List MapEntry)(since:Nat)(seen:List Nat)(last:Nat):Option (Option MapEntry):=
 if(!seen.isEmpty&& !es.isEmpty&&es.all fun e=>decide (e.born≥last))=true then none
 else match es.filter fun e=> !seen.contains e.born with
  |[]=>some none
  |[e]=>if e.born<since then some (some e)else none
  |_=>none
theorem qjC {P:Program}{w:World}{ty:TypeId}{r b since last c:Nat}{seen:List Nat}{es:List MapEntry}{x:Option MapEntry}(hr:Ob w r (.mapIter (some b) since seen.toArray last))(hb:Ob w b (.map es.toArray c))(hx:nxE es since seen last=some x):
  (Instr.next (.pointer (some ⟨r,0,none⟩)) false ty).run P w=match x with
   |none=> .ok (.tuple #[.bool false]) w
   |some e=> .ok (.tuple #[.bool true,e.key,e.val]) (setO w r (.mapIter (some b) since (seen++[e.born]).toArray c)):=by
 unfold nxE at hx;split at hx
 ·cases hx
 ·rename_i ht
  have ht':(!seen.toArray.isEmpty&& !es.toArray.isEmpty&&es.toArray.all fun e=>decide (e.born≥last))=false:=by
   rw[iY];intro hh;refine ht ?_;simpa using hh
  have hf:(es.toArray.filter fun e=> !seen.toArray.contains e.born)=(es.filter fun e=> !seen.contains e.born).toArray:=by simp
  unfold Instr.next;simp only[Sem.run_bind,qbS hr,Result.andThen_ok,qbS hb,ht',iv,if_false,hf];split at hx
  ·rename_i d
   obtain rfl:=ia hx;rw[d];simp[choose,Sem.run,Question.forced]
  ·rename_i e g
   split at hx
   ·rename_i a
    obtain rfl:=ia hx;rw[g];have h:(#[e].filter fun x=>decide (x.born<since))= #[e]:=by simp[a]
    have j:(#[e].filter fun x=>decide (x.born≥since))= #[]:=by simp;omega
    simp[choose,Sem.run,Question.forced,qfq hr,a,show¬since<=e.born by omega]
   ·cases hx
  ·cases hx
theorem zNxO {r b since last c:Nat}{seen:List Nat}{es:List MapEntry}(h:Sep w0 F0 w l)(i:Nat)(hb:Ob w b (.map es.toArray c))(hK:∀a',Has N (pushd (dO ops k) (.tuple #[.bool false]) f) a'->K a' w)(hs:nxAt N ops f k=some (r,dO ops k):=by kernel_rfl)(hx:nxE es since seen last=some none:=by kernel_rfl)
  (hi:l[i]? =some (qkG r (.mapIter (some b) since seen.toArray last)):=by rfl):∀a,Has N f a->wpOp P ops Q k K a w:=by
 have hr:=h.ob i hi;intro a ha;unfold nxAt at hs;split at hs
 ·rename_i x d ho
  split at hs
  ·rename_i r' hm
   simp only[ij,ib]at hs;obtain⟨rfl,e⟩:=hs;rw[<-e]at hK;refine qau ho ha fun o' g hd j=>?_;have:(execOp a.eval o').run P w= .ok (.value (.tuple #[.bool false])) w:=by
    have:=qjC (P:=P) (ty:=o'.type) hr hb hx;simp[execOp,g,qC ha hm,this]
   simp only[Oper.wp,this,Oper.upon];rw[hd];exact hK _ (ha.pushd j _)
  ·cases hs
 ·cases hs
theorem zNxS {r b since last c:Nat}{seen:List Nat}{es:List MapEntry}(e:MapEntry)(h:Sep w0 F0 w l)(i:Nat)(hb:Ob w b (.map es.toArray c))(hK:∀w',Sep w0 F0 w' (l.set i (qkG r (.mapIter (some b) since (seen++[e.born]).toArray c)))-> ∀a',Has N (pushd (dO ops k) (.tuple #[.bool true,e.key,e.val]) f) a'->K a' w')(hs:nxAt N ops f k=some (r,dO ops k):=by kernel_rfl)(hx:nxE es since seen last=some (some e):=by kernel_rfl)
  (hi:l[i]? =some (qkG r (.mapIter (some b) since seen.toArray last)):=by rfl):∀a,Has N f a->wpOp P ops Q k K a w:=by
 have hr:=h.ob i hi;intro a ha;unfold nxAt at hs;split at hs
 ·rename_i x d ho
  split at hs
  ·rename_i r' hm
   simp only[ij,ib]at hs;obtain⟨rfl,g⟩:=hs;rw[<-g]at hK;refine qau ho ha fun o' j hd m=>?_;have:(execOp a.eval o').run P w= .ok (.value (.tuple #[.bool true,e.key,e.val])) (setO w r' (.mapIter (some b) since (seen++[e.born]).toArray c)):=by
    have:=qjC (P:=P) (ty:=o'.type) hr hb hx;simp[execOp,j,qC ha hm,this]
   simp only[Oper.wp,this,Oper.upon];rw[hd];exact hK _ (h.setOb hi (qoK hr.lt) (qoJ _ _ _)) _ (ha.pushd m _)
  ·cases hs
 ·cases hs
def enAt (N:Nat)(ops:Array Oper)(f:Fr)(k:Nat):Option (Nat×Option Tmp):=
 match qfP N ops f k with
 |some (.entry x,d)=>match ev f x with
  |some (.pointer (some ⟨r,0,none⟩))=>some (r,d)
  |_=>none
 |_=>none
theorem zEn {r b since c:Nat}{seen:List Nat}{es:List MapEntry}(s0:Nat)(e:MapEntry)(h:Sep w0 F0 w l)(i:Nat)(hb:Ob w b (.map es.toArray c))(hK:∀a',Has N (pushd (dO ops k) (.tuple #[e.key,e.val]) f) a'->K a' w)(hs:enAt N ops f k=some (r,dO ops k):=by kernel_rfl)(hx:es.find? (fun x=>x.born==s0)=some e:=by kernel_rfl)
  (hi:l[i]? =some (qkG r (.mapIter (some b) since (seen++[s0]).toArray c)):=by rfl):∀a,Has N f a->wpOp P ops Q k K a w:=by
 have hr:=h.ob i hi;intro a ha;unfold enAt at hs;split at hs
 ·rename_i x d ho
  split at hs
  ·rename_i r' hm
   simp only[ij,ib]at hs;obtain⟨rfl,g⟩:=hs;rw[<-g]at hK;refine qau ho ha fun o' j hd m=>?_;have hf:es.toArray.find? (fun x=>x.born==s0)=some e:=by simpa using hx
   have n:((seen++[s0]).toArray).back? =some s0:=by simp
   have p:(Instr.entry (.pointer (some ⟨r',0,none⟩))).run P w= .ok (.tuple #[e.key,e.val]) w:=by
    unfold Instr.entry;simp only[Sem.run_bind,qbS hr,Result.andThen_ok,n,qbS hb];simp[hf]
   have:(execOp a.eval o').run P w= .ok (.value (.tuple #[e.key,e.val])) w:=by
    simp[execOp,j,qC ha hm,p]
   simp only[Oper.wp,this,Oper.upon];rw[hd];exact hK _ (ha.pushd m _)
  ·cases hs
 ·cases hs
end
theorem qaw (s:Int)(w:World):CP 125 [iX s].toArray w (RQ (.agg ((atP s).vals (nX)).toArray) w):=by
 refine yA Tryz.func125 rfl<|ysr<|yo (yN [iX 0,uX 0,uX 0,uX 0,iX 0,oX,nX,oX,iX 0] 94 fun m b c n d f=>?_);have o:=zn c (zm w);have g:=zu (zm w) f iZ;refine ye<|ysr<|yq 2<|yo (yT [iX s,uX 0,uX 0,uX 0,iX 0,oX,nX,oX,iX 0] d fun p j k=>?_);have l:=zu g k (fun i hi (h:i=b)=>by omega);refine ye<|q9 (qfZ (.agg #[iX s,uX 0,uX 0,uX 0,iX 0,oX,nX,oX,iX 0]) (.a (j.cs 0 9) .z) ?_);exact⟨rfl,Up.ch l⟩
theorem qhD {w:World}{po:Option Nat}{pn pc:Nat}{p:PS}(hP:IntsAt w .i64 po pn pc p.params (fun b=>po=some b))(s:Int):CP 124 [.agg (PS.vals p (.slice (po.map at0) pn pc)).toArray,iX s].toArray w fun e w'=>Fed w w' e po (qz p s).1 (qz p s).2:=by
 have h:=Sep.nil w;refine yA Tryz.func124 rfl<|ysr<|yo (zN (PS.vals p (.slice (po.map at0) pn pc)) 94 h fun u o h=>?_);refine yo (zN [iX 0,uX 0,uX 0,uX 0,iX 0,oX,nX,oX,iX 0] 94 h fun u q h=>?_);refine yz 3<|yx 1<|ys<|yx 2<|yc (rE s 6) (fun d=>?_) fun d=>?_
 ·refine q7<|yz 1<|ys<|zDC [5] [0] h fun u h=>ydF (uL 1 4) [] h.on (fun u h=>(.l (h.c 0 7) .z))<|qas 0 5 (by kernel_rfl) (by decide) ?_ ?_
  ·refine qa4 0 _ (by kernel_rfl) rfl (yQ (h.look (qaw 0 _)) fun u h=>?_);refine zH h<|qas 5 6 (by kernel_rfl) (by decide) ?_ ?_
   ·refine qav 5 _ (by kernel_rfl) rfl (zB [iX 5,rX 0,uX 0,oX,nX,.string p.text] 190 1 h fun u f h=>?_);refine zK (is:=[0]) h<|yH 6 (zs h 1 fun u h=>?_);refine zHs h<|ydF [7] [] h.on (fun u h=> .z)<|yDe (nS ?_);refine q9 (qfh (.a (h.cs 1 0 9) .z) (atP 0) [Ac.mk 5 0 0 ByteArray.empty [] p.text] none 0 0 (some f) 1 1 (.inr (fun b h=>by cases h)) (IntsAt.nil _ _ _) (ActsAt.one (h.b 2) (h.newb 2) ⟨none,0,0,rfl,IntsAt.nil _ _ _⟩) h.ch ?_);simp[qz,atP, *]
   refine qa4 6 _ (by kernel_rfl) rfl (zs h 1 fun u h=>?_);refine zHs h<|yK 5 (zB [iX 5,rX 0,uX 0,oX,nX,.string p.text] 190 1 h fun u g h=>?_);refine q8<|yd [7] [] .z<|yDe (nS ?_);refine q9 (qfh (.a (h.cs 1 0 9) .z) (atP 0) [Ac.mk 5 0 0 ByteArray.empty [] p.text] none 0 0 (some g) 1 1 (.inr (fun b h=>by cases h)) (IntsAt.nil _ _ _) (ActsAt.one (h.b 2) (h.newb 2) ⟨none,0,0,rfl,IntsAt.nil _ _ _⟩) h.ch ?_);simp[qz,atP, *]
  refine qav 5 _ (by kernel_rfl) rfl (zB [iX 5,rX 0,uX 0,oX,nX,.string p.text] 190 1 h fun u i h=>?_);refine zK (is:=[0]) h<|yH 0 (yQ (h.look (qaw 0 _)) fun u h=>?_);refine zH h<|yH 6 (zs h 1 fun u h=>?_);refine zHs h<|ydF [7] [] h.on (fun u h=> .z)<|yDe (nS ?_);refine q9 (qfh (.a (h.cs 1 0 9) .z) (atP 0) [Ac.mk 5 0 0 ByteArray.empty [] p.text] none 0 0 (some i) 1 1 (.inr (fun b h=>by cases h)) (IntsAt.nil _ _ _) (ActsAt.one (h.b 2) (h.newb 2) ⟨none,0,0,rfl,IntsAt.nil _ _ _⟩) h.ch ?_);simp[qz,atP, *]
 refine yk<|ys<|zDC [5] [0] h fun u h=>ydF (uL 1 4) [] h.on (fun u h=>(.l (h.c 0 7) .z))<|qas 0 5 (by kernel_rfl) (by decide) ?_ ?_
 ·refine qa4 0 _ (by kernel_rfl) rfl (yQ (h.look (qaw 0 _)) fun u h=>?_);refine zH h<|qas 5 6 (by kernel_rfl) (by decide) ?_ ?_
  ·refine qav 5 _ (by kernel_rfl) rfl (zB [iX 4,rX 0,uX 0,oX,nX,.string p.text] 190 1 h fun u j h=>?_);refine zK (is:=[0]) h<|yH 6 (zs h 1 fun u h=>?_);refine zHs h<|ydF [7] [] h.on (fun u h=> .z)<|yDe (nS ?_);refine q9 (qfh (.a (h.cs 1 0 9) .z) (atP 0) [Ac.mk 4 0 0 ByteArray.empty [] p.text] none 0 0 (some j) 1 1 (.inr (fun b h=>by cases h)) (IntsAt.nil _ _ _) (ActsAt.one (h.b 2) (h.newb 2) ⟨none,0,0,rfl,IntsAt.nil _ _ _⟩) h.ch ?_);simp[qz,atP, *]
  refine qa4 6 _ (by kernel_rfl) rfl (zs h 1 fun u h=>?_);refine zHs h<|yK 5 (zB [iX 4,rX 0,uX 0,oX,nX,.string p.text] 190 1 h fun u k h=>?_);refine q8<|yd [7] [] .z<|yDe (nS ?_);refine q9 (qfh (.a (h.cs 1 0 9) .z) (atP 0) [Ac.mk 4 0 0 ByteArray.empty [] p.text] none 0 0 (some k) 1 1 (.inr (fun b h=>by cases h)) (IntsAt.nil _ _ _) (ActsAt.one (h.b 2) (h.newb 2) ⟨none,0,0,rfl,IntsAt.nil _ _ _⟩) h.ch ?_);simp[qz,atP, *]
 refine qav 5 _ (by kernel_rfl) rfl (zB [iX 4,rX 0,uX 0,oX,nX,.string p.text] 190 1 h fun u m h=>?_);refine zK (is:=[0]) h<|yH 0 (yQ (h.look (qaw 0 _)) fun u h=>?_);refine zH h<|yH 6 (zs h 1 fun u h=>?_);refine zHs h<|ydF [7] [] h.on (fun u h=> .z)<|yDe (nS ?_);refine q9 (qfh (.a (h.cs 1 0 9) .z) (atP 0) [Ac.mk 4 0 0 ByteArray.empty [] p.text] none 0 0 (some m) 1 1 (.inr (fun b h=>by cases h)) (IntsAt.nil _ _ _) (ActsAt.one (h.b 2) (h.newb 2) ⟨none,0,0,rfl,IntsAt.nil _ _ _⟩) h.ch ?_);simp[qz,atP, *]
theorem qhE {w:World}{po:Option Nat}{pn pc:Nat}{p:PS}(hP:IntsAt w .i64 po pn pc p.params (fun b=>po=some b))(c:Int):CP 128 [.agg (PS.vals p (.slice (po.map at0) pn pc)).toArray,uX c].toArray w fun e w'=>Fed w w' e po (qs p c).1 (qs p c).2:=by
 have h:=Sep.nil w;refine yA Tryz.func128 rfl<|ysr<|yo (zN (PS.vals p (.slice (po.map at0) pn pc)) 94 h fun u A h=>?_);refine yo (zN [iX 0,uX 0,uX 0,uX 0,iX 0,oX,nX,oX,iX 0] 94 h fun u B h=>?_);refine yz 3<|ys<|qa<|yx 3<|yc (rL c 48) (fun i=>?_) fun i=>?_
 ·refine ys<|ysr<|yp 4 [] (.l (h.c 0 5) .z)<|ye<|yc (rL ((p.marks).size:Int) 2) (fun d=>?_) fun d=>?_
  ·refine q7<|yp 3 [] (.l (h.c 0 5) .z)<|yo (zB [uX c] 5 1 h fun u j h=>?_);refine yo (qE (some ⟨j,0,none⟩) 1 1 [c] (some 17) (by kernel_rfl) (Rd.all (h.b 2)) rfl ?_);refine yp 7 [] (.p (q:=(p.marks).size+((qf [c])).size<=9223372036854775807) (by simp only[qb5];omega) .z)<|yo (zs h 0 fun u h=>?_);refine ye<|ysr<|yq 1<|yo (zs h 0 fun u h=>?_);refine ye<|ysr<|yp 1 [] (.a (h.cs 0 0 9) .z)<|yo (zs h 1 fun u h=>?_);refine yz 3<|q9 (rB (rS (qfh (.a (h.cs 1 0 9) .z) {p with state:=2,marks:=(p.marks++(qf [c]))} [] po pn pc none 0 0 (.inl ⟨rfl,rfl,rfl,rfl⟩) (hP.ch h.ch fun _ _ h=>h.elim).old (ActsAt.nil _ _) h.ch ?_)));simp[qs,atP, *]
  refine yk<|ysr<|yq 1<|yo (zs h 0 fun u h=>?_);refine ye<|ysr<|yp 1 [] (.a (h.cs 0 0 9) .z)<|yo (zs h 1 fun u h=>?_);refine yz 3<|q9 (rB (rS (qfh (.a (h.cs 1 0 9) .z) {p with state:=2} [] po pn pc none 0 0 (.inl ⟨rfl,rfl,rfl,rfl⟩) (hP.ch h.ch fun _ _ h=>h.elim).old (ActsAt.nil _ _) h.ch ?_)));simp[qs,atP, *]
 refine ysr<|yp 4 [] (.l (h.c 0 0) .z)<|yw [26] (rE p.state 1) (fun d=>?_) fun d=>?_
 ·refine yz 8<|yc (rE c 91) (fun f=>?_) fun f=>?_
  ·refine ysr<|yo (yQ (h.look (qaw 3 _)) fun u h=>?_);refine yo (zs h 1 fun u h=>?_);refine yz 3<|q9 (rB (rS (qfh (.a (h.cs 1 0 9) .z) (atP 3) [] none 0 0 none 0 0 (.inl ⟨rfl,rfl,rfl,rfl⟩) (IntsAt.nil _ _ _) (ActsAt.nil _ _) h.ch ?_)));simp[qs,atP, *]
  refine ysr<|yp 4 [] (.l (h.c 0 0) .z)<|yw [35] (rE p.state 1) (fun g=>?_) fun g=>?_
  ·refine yz 8<|yc (rE c 93) (fun k=>?_) fun k=>?_
   ·refine ysr<|yo (yQ (h.look (qaw 5 _)) fun u h=>?_);refine yo (zs h 1 fun u h=>?_);refine yz 3<|q9 (rB (rS (qfh (.a (h.cs 1 0 9) .z) (atP 5) [] none 0 0 none 0 0 (.inl ⟨rfl,rfl,rfl,rfl⟩) (IntsAt.nil _ _ _) (ActsAt.nil _ _) h.ch ?_)));simp[qs,atP, *]
   refine ysr<|yp 4 [] (.l (h.c 0 0) .z)<|yw [44] (rE p.state 1) (fun m=>?_) fun m=>?_
   ·refine yz 8<|yc (rE c 80) (fun o=>?_) fun o=>?_
    ·refine ysr<|yo (yQ (h.look (qaw 6 _)) fun u h=>?_);refine yo (zs h 1 fun u h=>?_);refine yz 3<|q9 (rB (rS (qfh (.a (h.cs 1 0 9) .z) (atP 6) [] none 0 0 none 0 0 (.inl ⟨rfl,rfl,rfl,rfl⟩) (IntsAt.nil _ _ _) (ActsAt.nil _ _) h.ch ?_)));simp[qs,atP, *]
    refine qo (nB (nS ?_));refine ys<|zDC [5] [0] h fun u h=>ydF (uL 1 4) [] h.on (fun u h=>(.l (h.c 0 5) .z))<|qas 0 5 (by kernel_rfl) (by decide) ?_ ?_
    ·refine qa4 0 _ (by kernel_rfl) rfl (yQ (h.look (qaw 0 _)) fun u h=>?_);refine zH h<|qas 5 6 (by kernel_rfl) (by decide) ?_ ?_
     ·refine qav 5 _ (by kernel_rfl) rfl (zB [iX 2,rX 0,uX c,.string p.marks,nX,oX] 190 1 h fun u r h=>?_);refine zK (is:=[0]) h<|yH 6 (zs h 1 fun u h=>?_);refine zHs h<|ydF [7] [] h.on (fun u h=> .z)<|yDe (nS ?_);refine q9 (qfh (.a (h.cs 1 0 9) .z) (atP 0) [Ac.mk 2 0 c p.marks [] ByteArray.empty] none 0 0 (some r) 1 1 (.inr (fun b h=>by cases h)) (IntsAt.nil _ _ _) (ActsAt.one (h.b 2) (h.newb 2) ⟨none,0,0,rfl,IntsAt.nil _ _ _⟩) h.ch ?_);simp[qs,atP, *]
     refine qa4 6 _ (by kernel_rfl) rfl (zs h 1 fun u h=>?_);refine zHs h<|yK 5 (zB [iX 2,rX 0,uX c,.string p.marks,nX,oX] 190 1 h fun u s h=>?_);refine q8<|yd [7] [] .z<|yDe (nS ?_);refine q9 (qfh (.a (h.cs 1 0 9) .z) (atP 0) [Ac.mk 2 0 c p.marks [] ByteArray.empty] none 0 0 (some s) 1 1 (.inr (fun b h=>by cases h)) (IntsAt.nil _ _ _) (ActsAt.one (h.b 2) (h.newb 2) ⟨none,0,0,rfl,IntsAt.nil _ _ _⟩) h.ch ?_);simp[qs,atP, *]
    refine qav 5 _ (by kernel_rfl) rfl (zB [iX 2,rX 0,uX c,.string p.marks,nX,oX] 190 1 h fun u t h=>?_);refine zK (is:=[0]) h<|yH 0 (yQ (h.look (qaw 0 _)) fun u h=>?_);refine zH h<|yH 6 (zs h 1 fun u h=>?_);refine zHs h<|ydF [7] [] h.on (fun u h=> .z)<|yDe (nS ?_);refine q9 (qfh (.a (h.cs 1 0 9) .z) (atP 0) [Ac.mk 2 0 c p.marks [] ByteArray.empty] none 0 0 (some t) 1 1 (.inr (fun b h=>by cases h)) (IntsAt.nil _ _ _) (ActsAt.one (h.b 2) (h.newb 2) ⟨none,0,0,rfl,IntsAt.nil _ _ _⟩) h.ch ?_);simp[qs,atP, *]
   exfalso;omega
  exfalso;omega
 refine yz 8<|ycf<|ysr<|yp 4 [] (.l (h.c 0 0) .z)<|yw [35] (rE p.state 1) (fun f=>?_) fun f=>?_
 ·exfalso;omega
 refine yz 8<|ycf<|ysr<|yp 4 [] (.l (h.c 0 0) .z)<|yw [44] (rE p.state 1) (fun g=>?_) fun g=>?_
 ·exfalso;omega
 refine yz 8<|ycf<|qo (nB (nS ?_));refine ys<|zDC [5] [0] h fun u h=>ydF (uL 1 4) [] h.on (fun u h=>(.l (h.c 0 5) .z))<|qas 0 5 (by kernel_rfl) (by decide) ?_ ?_
 ·refine qa4 0 _ (by kernel_rfl) rfl (yQ (h.look (qaw 0 _)) fun u h=>?_);refine zH h<|qas 5 6 (by kernel_rfl) (by decide) ?_ ?_
  ·refine qav 5 _ (by kernel_rfl) rfl (zB [iX 2,rX 0,uX c,.string p.marks,nX,oX] 190 1 h fun u v h=>?_);refine zK (is:=[0]) h<|yH 6 (zs h 1 fun u h=>?_);refine zHs h<|ydF [7] [] h.on (fun u h=> .z)<|yDe (nS ?_);refine q9 (qfh (.a (h.cs 1 0 9) .z) (atP 0) [Ac.mk 2 0 c p.marks [] ByteArray.empty] none 0 0 (some v) 1 1 (.inr (fun b h=>by cases h)) (IntsAt.nil _ _ _) (ActsAt.one (h.b 2) (h.newb 2) ⟨none,0,0,rfl,IntsAt.nil _ _ _⟩) h.ch ?_);simp[qs,atP, *]
  refine qa4 6 _ (by kernel_rfl) rfl (zs h 1 fun u h=>?_);refine zHs h<|yK 5 (zB [iX 2,rX 0,uX c,.string p.marks,nX,oX] 190 1 h fun u x h=>?_);refine q8<|yd [7] [] .z<|yDe (nS ?_);refine q9 (qfh (.a (h.cs 1 0 9) .z) (atP 0) [Ac.mk 2 0 c p.marks [] ByteArray.empty] none 0 0 (some x) 1 1 (.inr (fun b h=>by cases h)) (IntsAt.nil _ _ _) (ActsAt.one (h.b 2) (h.newb 2) ⟨none,0,0,rfl,IntsAt.nil _ _ _⟩) h.ch ?_);simp[qs,atP, *]
 refine qav 5 _ (by kernel_rfl) rfl (zB [iX 2,rX 0,uX c,.string p.marks,nX,oX] 190 1 h fun u y h=>?_);refine zK (is:=[0]) h<|yH 0 (yQ (h.look (qaw 0 _)) fun u h=>?_);refine zH h<|yH 6 (zs h 1 fun u h=>?_);refine zHs h<|ydF [7] [] h.on (fun u h=> .z)<|yDe (nS ?_);refine q9 (qfh (.a (h.cs 1 0 9) .z) (atP 0) [Ac.mk 2 0 c p.marks [] ByteArray.empty] none 0 0 (some y) 1 1 (.inr (fun b h=>by cases h)) (IntsAt.nil _ _ _) (ActsAt.one (h.b 2) (h.newb 2) ⟨none,0,0,rfl,IntsAt.nil _ _ _⟩) h.ch ?_);simp[qs,atP, *]
theorem qjD {w:World}{po:Option Nat}{pn pc:Nat}{p:PS}(hP:IntsAt w .i64 po pn pc p.params (fun b=>po=some b))(hn:pn<=100):CP 159 [.agg (PS.vals p (.slice (po.map at0) pn pc)).toArray].toArray w fun e w'=> ∃b n c,e= .returned (.slice (some ⟨b,0,none⟩) n c)/\Own w' tInt 1 (some b) n c ((qbj p.params).map (Value.int .i64))/\w.heap.size<=b/\Ch (fun _=>False) w w':=by
 have C:=hP.2.1;refine yA Tryz.func159 rfl<|ysr<|yo (yN (PS.vals p (.slice (po.map at0) pn pc)) 94 fun D r s E f j=>?_);have F:=zn s (zm w);have a:=zu (zm w) j iZ;have g:=hP.ch j iZ;refine yz 2<|ys<|ysr<|yp 4 [] (.l (f.c 6) .z)<|ye<|yc (rE (pn:Int) 0) (fun t=>?_) fun t=>?_
 ·refine ysr<|yo (yB [iX 0] 3 1 fun G k u H v x=>?_);have I:=zn u a;have y:=zu a x iZ;refine yz 2<|q9 (rS (yR1 (.slice (some ⟨k,0,none⟩) 1 1) ?_));refine⟨k,1,1,rfl,?_,by omega,Up.ch y⟩;rw[show qbj p.params=[0]from if_pos (by omega)];exact Own.blk v rfl (by decide)
 refine yk<|ysr<|yp 2 [] (.l (f.c 6) .z) ?_;refine yo (qaE 3 1 8 none 0 0 [] (po.map at0) pn pc (p.params.map (Value.int .i64)) (some 10) pn (iJ _) (p.params.map (Value.int .i64)) rfl (by kernel_rfl) (Own.nil _ _ _) g.1 (by rw[hZ,g.2.1,iN]) (qN _) (fun h=>g.2.2.1 (by cases po<;>simp_all)) (by constructor<;>first|omega|(simp only[maxLen];omega)) ?_);intro J d m o q K i;replace i:=qM i;have A:∀b,d=some b->w.heap.size<=b:=fun b e=>by
  rcases q with h|⟨g',h,h'⟩
  ·rw[h]at e;cases e
  rw[h]at e;have:=zi e;have:=zzs a;omega
 have B:=zu a i iZ;have L:¬d=some r:=fun e=>by
  rcases q with h|⟨g',h,h'⟩
  ·rw[h]at e;cases e
  rw[h]at e;have:=zi e;have:=f.lt;omega
 refine yz 4<|q9 (yR1 (.slice (d.map at0) pn m) ?_);have M:0<pn:=by omega
 cases d with
 |none=>exact absurd (o.2.2.2.1 rfl).1 (by omega)
 |some b=>
  refine⟨b,pn,m,rfl,?_,A b rfl,Up.ch B⟩;rw[show qbj p.params=p.params from if_neg (by omega)];exact o
theorem qnc {w:World}{po:Option Nat}{pn pc:Nat}{p:PS}(hP:IntsAt w .i64 po pn pc p.params (fun b=>po=some b))(c:Int)(ht:p.text.size<=1000):CP 126 [.agg (PS.vals p (.slice (po.map at0) pn pc)).toArray,uX c].toArray w fun e w'=>Fed w w' e po (qS p c).1 (qS p c).2:=by
 refine yA Tryz.func126 rfl<|ysr<|yo (yN (PS.vals p (.slice (po.map at0) pn pc)) 94 fun aW g a0 aX y K=>?_);have C:=zn a0 (zm w);have L:=zu (zm w) K iZ;have a1:=hP.ch K iZ;refine yo (yN [iX 0,uX 0,uX 0,uX 0,iX 0,oX,nX,oX,iX 0] 94 fun M d a2 aY m D=>?_);have u:=zn a2 L;have j:=zu L D iZ;have v:=a1.ch D iZ;have f:=y.ch D id;refine yz 3<|ys<|qa<|yx 3<|yc (rE c 27) (fun o=>?_) fun o=>?_
 ·refine q7<|yp 3 [] (.l (f.c 0) .z)<|yo (yT [iX p.state,uX p.utf.b0,uX p.utf.b1,uX p.utf.b2,iX p.utf.n,.string p.marks,.slice (po.map at0) pn pc,.string p.text,iX p.state] f fun aZ a3 E=>?_);have a4:=zu j E (fun i hi (h:i=g)=>by omega);have a5:=v.ch E (fun b hb (e:b=g)=>by have:=(hP.2.2.2 b hb).2;have:=C;omega);have a6:=m.ch E (fun(h:d=g)=>by have:=y.lt;omega);refine yq 5<|yo (yT [iX 7,uX p.utf.b0,uX p.utf.b1,uX p.utf.b2,iX p.utf.n,.string p.marks,.slice (po.map at0) pn pc,.string p.text,iX p.state] a3 fun b3 a7 F=>?_);have a8:=zu a4 F (fun i hi (h:i=g)=>by omega);have a9:=a5.ch F (fun b hb (e:b=g)=>by have:=(hP.2.2.2 b hb).2;have:=C;omega);have aa:=a6.ch F (fun(h:d=g)=>by have:=y.lt;omega);refine yE (nB (nS ?_));refine ysr<|yp 1 [] (.a (a7.cs 0 9) .z)<|yo (yT [iX 7,uX p.utf.b0,uX p.utf.b1,uX p.utf.b2,iX p.utf.n,.string p.marks,.slice (po.map at0) pn pc,.string p.text,iX p.state] aa fun b4 ab N=>?_);have ac:=zu a8 N (fun i hi (h:i=d)=>by omega);have ad:=a9.ch N (fun b hb (e:b=d)=>by have:=(hP.2.2.2 b hb).2;have:=u;omega);refine yz 3<|q9 (yR2 [.agg #[iX 7,uX p.utf.b0,uX p.utf.b1,uX p.utf.b2,iX p.utf.n,.string p.marks,.slice (po.map at0) pn pc,.string p.text,iX p.state],nX] (.a (ab.cs 0 9) .z) ?_);refine Fed.mk' (p':=(PS.mk 7 ⟨p.utf.b0,p.utf.b1,p.utf.b2,p.utf.n⟩ p.marks p.params p.text p.state)) (l:=[]) po pn pc none 0 0 (.inl ⟨rfl,rfl,rfl,rfl⟩) rfl (ad.old) (ActsAt.nil _ _) (Up.ch ac) ?_
  simp only[qS,atP,o,↓reduceIte,Int.reduceEq,Int.reduceLE,Int.reduceLT,reduceCtorEq,sA,ne_eq]
 refine ysr<|yq 3<|yw [16] (rE c 7) (fun r=>?_) fun r=>?_
 ·refine yp 8 [] (.l (f.c 0) .z)<|ye<|yc (rE p.state 5) (fun k=>?_) fun k=>?_
  ·refine ysr<|yp 1 [] (.a (f.cs 0 9) .z)<|yo (yC (qhD v 5) ?_);rintro _ O ⟨G,H,I,P,Q,R,rfl,ae,af,S⟩;refine⟨_,rfl,?_⟩;have b5:g<M.heap.size:=f.lt;have T:d<M.heap.size:=m.lt;have ag:=zu j S iZ;have ah:=m.ch S id;have ai:O.heap.size<=O.heap.size:=iE _;refine yq 4<|yo (yT (PS.vals (qz p 5).1 (.slice (G.map at0) H I)) ah fun b6 aj A=>?_);have ak:=zu ag A (fun i hi (h:i=d)=>by omega);have al:=ae.ch A (fun b hb (e:b=d)=>hb.elim (fun hb=>by have:=(hP.2.2.2 b hb).2;have:=u;omega) (fun hb=>by have:=T;omega));have am:=af.ch A (fun b hb (e:b=d)=>by have:=T;omega);have b7:=iq ai (zzs A);refine yz 6<|q9 (rB (rS (yR2 [.agg (PS.vals (qz p 5).1 (.slice (G.map at0) H I)).toArray,.slice (P.map at0) Q R] (.a (aj.cs 0 9) .z) ?_)));have b8:=zzs j;refine Fed.mk2 (p':=(qz p 5).1) (l:=(qz p 5).2) G H I P Q R rfl (al.mono fun b hb=>hb.imp id fun h=>⟨by omega,by omega⟩) (am.mono fun b h=>⟨⟨by omega,by omega⟩,h.2⟩) (Up.ch ak) ?_;simp only[qS,atP,o,r,k,↓reduceIte,Int.reduceEq,Int.reduceLE,Int.reduceLT,reduceCtorEq,sA,ne_eq]
  refine ysr<|yq 3<|yw [28] (rE c 24) (fun s=>?_) fun s=>?_
  ·exfalso;omega
  refine yz 7<|yc (rE c 26) (fun t=>?_) fun t=>?_
  ·exfalso;omega
  refine ysr<|yq 3<|yw [36] (rM 32 c) (fun x=>?_) fun x=>?_
  ·exfalso;omega
  refine yz 9<|ycf<|qo (nB (nS ?_));refine ysr<|yp 1 [] (.a (f.cs 0 9) .z)<|yo (yT (PS.vals p (.slice (po.map at0) pn pc)) m fun b9 an U=>?_);have ao:=zu j U (fun i hi (h:i=d)=>by omega);have ap:=v.ch U (fun b hb (e:b=d)=>by have:=(hP.2.2.2 b hb).2;have:=u;omega);refine yz 3<|q9 (yR2 [.agg (PS.vals p (.slice (po.map at0) pn pc)).toArray,nX] (.a (an.cs 0 9) .z) ?_);refine Fed.mk' (p':=(PS.mk p.state ⟨p.utf.b0,p.utf.b1,p.utf.b2,p.utf.n⟩ p.marks p.params p.text p.within)) (l:=[]) po pn pc none 0 0 (.inl ⟨rfl,rfl,rfl,rfl⟩) rfl (ap.old) (ActsAt.nil _ _) (Up.ch ao) ?_;simp only[qS,atP,o,r,k,s,t,x,↓reduceIte,Int.reduceEq,Int.reduceLE,Int.reduceLT,reduceCtorEq,sA,ne_eq]
 refine yz 8<|ycf<|ysr<|yq 3<|yw [28] (rE c 24) (fun k=>?_) fun k=>?_
 ·refine yz 7<|yct<|ysr<|yo (yQ (qaw 0 _) fun ba V=>?_);have aq:=zu j V iZ;have ar:=m.ch V id;refine yo (yT [iX 0,uX 0,uX 0,uX 0,iX 0,oX,nX,oX,iX 0] ar fun bb au av=>?_);have aw:=zu aq av (fun i hi (h:i=d)=>by omega);refine yz 3<|q9 (rB (rS (yR2 [.agg #[iX 0,uX 0,uX 0,uX 0,iX 0,oX,nX,oX,iX 0],nX] (.a (au.cs 0 9) .z) ?_)));refine Fed.mk' (p':=(PS.mk 0 ⟨0,0,0,0⟩ ByteArray.empty [] ByteArray.empty 0)) (l:=[]) none 0 0 none 0 0 (.inl ⟨rfl,rfl,rfl,rfl⟩) rfl (IntsAt.nil _ _ _) (ActsAt.nil _ _) (Up.ch aw) ?_;simp only[qS,atP,o,r,k,↓reduceIte,Int.reduceEq,Int.reduceLE,Int.reduceLT,reduceCtorEq,sA,ne_eq]
 refine yz 7<|yc (rE c 26) (fun s=>?_) fun s=>?_
 ·refine ysr<|yo (yQ (qaw 0 _) fun bc W=>?_);have ax:=zu j W iZ;have ay:=m.ch W id;refine yo (yT [iX 0,uX 0,uX 0,uX 0,iX 0,oX,nX,oX,iX 0] ay fun bd az aA=>?_);have aB:=zu ax aA (fun i hi (h:i=d)=>by omega);refine yz 3<|q9 (rB (rS (yR2 [.agg #[iX 0,uX 0,uX 0,uX 0,iX 0,oX,nX,oX,iX 0],nX] (.a (az.cs 0 9) .z) ?_)));refine Fed.mk' (p':=(PS.mk 0 ⟨0,0,0,0⟩ ByteArray.empty [] ByteArray.empty 0)) (l:=[]) none 0 0 none 0 0 (.inl ⟨rfl,rfl,rfl,rfl⟩) rfl (IntsAt.nil _ _ _) (ActsAt.nil _ _) (Up.ch aB) ?_;simp only[qS,atP,o,r,k,s,↓reduceIte,Int.reduceEq,Int.reduceLE,Int.reduceLT,reduceCtorEq,sA,ne_eq]
 refine ysr<|yq 3<|yw [36] (rM 32 c) (fun t=>?_) fun t=>?_
 ·refine yp 9 [] (.l (f.c 7) .z)<|ye<|yc (rL ((p.text).size:Int) 40) (fun x=>?_) fun x=>?_
  ·refine q7<|yp 3 [] (.l (f.c 7) .z)<|yo (yB [uX c] 5 1 fun bf aC aD bg aE B=>?_);have bh:=zn aD j;have aF:=zu j B iZ;have aG:=v.ch B iZ;have aH:=f.ch B id;have aI:=m.ch B id;refine yo (qE (some ⟨aC,0,none⟩) 1 1 [c] (some 46) (by kernel_rfl) (Rd.all aE) rfl ?_);refine yp 7 [] (.p (q:=(p.text).size+((qf [c])).size<=9223372036854775807) (by simp only[qb5];omega) .z)<|yo (yT [iX p.state,uX p.utf.b0,uX p.utf.b1,uX p.utf.b2,iX p.utf.n,.string p.marks,.slice (po.map at0) pn pc,.string (p.text++(qf [c])),iX p.within] aH fun bi aJ J=>?_);have aK:=zu aF J (fun i hi (h:i=g)=>by omega);have aL:=aG.ch J (fun b hb (e:b=g)=>by have:=(hP.2.2.2 b hb).2;have:=C;omega);have aM:=aI.ch J (fun(h:d=g)=>by have:=y.lt;omega);refine yE (nB (nS ?_));refine ysr<|yp 1 [] (.a (aJ.cs 0 9) .z)<|yo (yT [iX p.state,uX p.utf.b0,uX p.utf.b1,uX p.utf.b2,iX p.utf.n,.string p.marks,.slice (po.map at0) pn pc,.string (p.text++(qf [c])),iX p.within] aM fun bj aN X=>?_);have aO:=zu aK X (fun i hi (h:i=d)=>by omega);have aP:=aL.ch X (fun b hb (e:b=d)=>by have:=(hP.2.2.2 b hb).2;have:=u;omega);refine yz 3<|q9 (yR2 [.agg #[iX p.state,uX p.utf.b0,uX p.utf.b1,uX p.utf.b2,iX p.utf.n,.string p.marks,.slice (po.map at0) pn pc,.string (p.text++(qf [c])),iX p.within],nX] (.a (aN.cs 0 9) .z) ?_);refine Fed.mk' (p':=(PS.mk p.state ⟨p.utf.b0,p.utf.b1,p.utf.b2,p.utf.n⟩ p.marks p.params (p.text++(qf [c])) p.within)) (l:=[]) po pn pc none 0 0 (.inl ⟨rfl,rfl,rfl,rfl⟩) rfl (aP.old) (ActsAt.nil _ _) (Up.ch aO) ?_
   simp only[qS,atP,o,r,k,s,t,x,↓reduceIte,Int.reduceEq,Int.reduceLE,Int.reduceLT,reduceCtorEq,sA,ne_eq]
  refine qo (nB (nS ?_));refine ysr<|yp 1 [] (.a (f.cs 0 9) .z)<|yo (yT (PS.vals p (.slice (po.map at0) pn pc)) m fun bk aQ Y=>?_);have aR:=zu j Y (fun i hi (h:i=d)=>by omega);have aS:=v.ch Y (fun b hb (e:b=d)=>by have:=(hP.2.2.2 b hb).2;have:=u;omega);refine yz 3<|q9 (yR2 [.agg (PS.vals p (.slice (po.map at0) pn pc)).toArray,nX] (.a (aQ.cs 0 9) .z) ?_);refine Fed.mk' (p':=(PS.mk p.state ⟨p.utf.b0,p.utf.b1,p.utf.b2,p.utf.n⟩ p.marks p.params p.text p.within)) (l:=[]) po pn pc none 0 0 (.inl ⟨rfl,rfl,rfl,rfl⟩) rfl (aS.old) (ActsAt.nil _ _) (Up.ch aR) ?_;simp only[qS,atP,o,r,k,s,t,x,↓reduceIte,Int.reduceEq,Int.reduceLE,Int.reduceLT,reduceCtorEq,sA,ne_eq]
 refine yz 9<|ycf<|qo (nB (nS ?_));refine ysr<|yp 1 [] (.a (f.cs 0 9) .z)<|yo (yT (PS.vals p (.slice (po.map at0) pn pc)) m fun bl aT Z=>?_);have aU:=zu j Z (fun i hi (h:i=d)=>by omega);have aV:=v.ch Z (fun b hb (e:b=d)=>by have:=(hP.2.2.2 b hb).2;have:=u;omega);refine yz 3<|q9 (yR2 [.agg (PS.vals p (.slice (po.map at0) pn pc)).toArray,nX] (.a (aT.cs 0 9) .z) ?_);refine Fed.mk' (p':=(PS.mk p.state ⟨p.utf.b0,p.utf.b1,p.utf.b2,p.utf.n⟩ p.marks p.params p.text p.within)) (l:=[]) po pn pc none 0 0 (.inl ⟨rfl,rfl,rfl,rfl⟩) rfl (aV.old) (ActsAt.nil _ _) (Up.ch aU) ?_;simp only[qS,atP,o,r,k,s,t,↓reduceIte,Int.reduceEq,Int.reduceLE,Int.reduceLT,reduceCtorEq,sA,ne_eq]
theorem qoL {w:World}{po:Option Nat}{pn pc:Nat}{p:PS}(hP:IntsAt w .i64 po pn pc p.params (fun b=>po=some b))(c:Int)(hc8:0<=c/\c<=255)(ht:p.marks.size<=1000)(hn:pn<=8)(hpb:∀x∈p.params,0<=x/\x<=9999):CP 127 [.agg (PS.vals p (.slice (po.map at0) pn pc)).toArray,uX c].toArray w fun e w'=>Fed w w' e po (qbE p c).1 (qbE p c).2:=by
 have W:=hP.2.1;have X:=qlS hpb;have h:=Sep.nil w;refine yA Tryz.func127 rfl<|ysr<|yo (zN (PS.vals p (.slice (po.map at0) pn pc)) 94 h fun u Y h=>?_);refine yo (zN [iX 0,uX 0,uX 0,uX 0,iX 0,oX,nX,oX,iX 0] 94 h fun u Z h=>?_);refine yz 3<|ys<|qa<|ysr<|yq 3<|yw [18] (rM 48 c) (fun A=>?_) fun A=>?_
 ·refine yz 7<|yc (rM c 57) (fun s=>?_) fun s=>?_
  ·refine ysr<|yp 1 [] (.a (h.cs 0 0 9) .z)<|yo (yC (qjD (hP.ch h.ch fun _ _ h=>h.elim) (by omega)) ?_);rintro _ u ⟨B,d,C,rfl,v,D,E⟩;refine⟨_,rfl,?_⟩;have a0:(qbj p.params).length=d:=by have:=v.1;rw[hZ]at this;omega
   have a1:=qgs p.params;have h:=h.fresh v (fun g e=>by cases e;exact D) E;refine yz 3<|ysr<|yp 17 [12] (.q6 ((d:Int)-1) (.q6 ((d:Int)-1) (.i ((d:Int)-1) (d) (.l (o:=(0+(((d:Int)-1)).toNat*1)) (qoI (h.own 2) (by omega)) (.q6 (10*(qgt (qbj p.params))) (.p (q:=InR .u8 (c-48)) (in8 (by omega) (by omega)) (.q6 (c-48) (.q6 ((10*(qgt (qbj p.params)))+(c-48)) (.i ((d:Int)-1) (d) .z))))))))) ?_;obtain⟨a2,F,G⟩:=(h.own 2).2.2.2.2 _ rfl;refine yo (qaL (0+(((d:Int)-1):Int).toNat*1) [iX (min (((10*(qgt (qbj p.params)))+(c-48)):Int) 9999)] none (by kernel_rfl) G (by simp only[hJ,hZ,iz,iP];omega) ?_);intro u H I;have J:=qjB (x:=(min (((10*(qgt (qbj p.params)))+(c-48)):Int) 9999)) (h.own 2) F (by omega) H;have h:=h.push (i:=2) rfl J (.inl rfl) (I.mono fun _ _ e=>e▸rfl);refine ye<|q7<|yq 2<|yo (zs h 0 fun u h=>?_);refine yE (nB (nS ?_));refine ysr<|yp 1 [] (.a (h.cs 0 0 9) .z)<|yo (zs h 1 fun u h=>?_);refine yz 3<|q9 (qfh (.a (h.cs 1 0 9) .z) {p with params:=(qfp (qbj p.params) (min (((10*(qgt (qbj p.params)))+(c-48)):Int) 9999))} [] (some B) d C none 0 0 (.inl ⟨rfl,rfl,rfl,rfl⟩) (h.nums 2).or (ActsAt.nil _ _) h.ch ?_);simp[qbE,atP, *]
  refine yx 3<|yc (rE c 59) (fun t=>?_) fun t=>?_
  ·refine ysr<|yp 1 [] (.a (h.cs 0 0 9) .z)<|yo (yC (qjD (hP.ch h.ch fun _ _ h=>h.elim) (by omega)) ?_);rintro _ u ⟨K,f,L,rfl,y,M,N⟩;refine⟨_,rfl,?_⟩;have a3:(qbj p.params).length=f:=by have:=y.1;rw[hZ]at this;omega
   have a4:=qgs p.params;have h:=h.fresh y (fun g e=>by cases e;exact M) N;refine yz 3<|ys<|yx 3<|yc (rL (f:Int) 8) (fun j=>?_) fun j=>?_
   ·refine q7<|yq 1<|yo (zB [iX 0] 3 1 h fun u a5 h=>?_);refine yo (zA 2 8 1 1 (f+1) (((qbj p.params)++[0]).map (Value.int .i64)) h (Rd.all (h.b 3)) rfl (hz:=by rw[iI];rfl) fun u a6 O h P=>?_);obtain⟨Q,rfl⟩:=P (by omega);refine yz 4<|q7<|yq 2<|yo (zs h 0 fun u h=>?_);refine yE (nB (nS ?_));refine ysr<|yp 1 [] (.a (h.cs 0 0 9) .z)<|yo (zs h 1 fun u h=>?_);refine yz 3<|q9 (qfh (.a (h.cs 1 0 9) .z) {p with params:=((qbj p.params)++[0])} [] (some Q) (f+1) O none 0 0 (.inl ⟨rfl,rfl,rfl,rfl⟩) (h.nums 2).or (ActsAt.nil _ _) h.ch ?_);simp[qbE,atP, *]
   refine yk<|q7<|yq 2<|yo (zs h 0 fun u h=>?_);refine yE (nB (nS ?_));refine ysr<|yp 1 [] (.a (h.cs 0 0 9) .z)<|yo (zs h 1 fun u h=>?_);refine yz 3<|q9 (qfh (.a (h.cs 1 0 9) .z) {p with params:=(qbj p.params)} [] (some K) f L none 0 0 (.inl ⟨rfl,rfl,rfl,rfl⟩) (h.nums 2).or (ActsAt.nil _ _) h.ch ?_);simp[qbE,atP, *]
  refine yx 3<|yc (rM 64 c) (fun j=>?_) fun j=>?_
  ·refine ys<|ysr<|yp 3 [] (.l (h.c 0 0) .z)<|ye<|yc (rE p.state 4) (fun k=>?_) fun k=>?_
   ·refine ysr<|yo (yQ (h.look (qaw 0 _)) fun u h=>?_);refine yo (zs h 1 fun u h=>?_);refine yz 3<|q9 (rS (rB (rS (qfh (.a (h.cs 1 0 9) .z) (atP 0) [] none 0 0 none 0 0 (.inl ⟨rfl,rfl,rfl,rfl⟩) (IntsAt.nil _ _ _) (ActsAt.nil _ _) h.ch ?_))));simp[qbE,atP, *]
   refine yk<|ys<|zDC [8] [0] h fun u h=>ydF (uL 1 5) [] h.on (fun u h=>(.l (h.c 0 5) (.l (h.c 0 6) .z)))<|yH 0 (yQ (h.look (qaw 0 _)) fun u h=>?_);refine zH h ?_;refine yH 6 (zA0 3 1 8 h (hP.ch h.ch fun _ _ h=>h.elim).1 (qN _) (by rw[hZ,hP.2.1,iN]) (fun h=>hP.2.2.1 (by cases po<;>simp_all)) fun u m r h a7=>?_);refine zHa h<|ydF [7] [] h.on (fun u h=> .z)<|qas 8 9 (by kernel_rfl) (by decide) ?_ ?_
   ·refine qav 8 _ (by kernel_rfl) rfl (zB [iX 3,rX 0,uX c,.string p.marks,.slice (m.map at0) pn r,oX] 190 1 h fun u R h=>?_);refine zK (is:=[0]) h<|yH 9 (zs h 1 fun u h=>?_);refine zHs h<|ydF [10] [] h.on (fun u h=> .z)<|yDe (nS ?_);refine q9 (rB (rS (qfh (.a (h.cs 1 0 9) .z) (atP 0) [Ac.mk 3 0 c p.marks p.params ByteArray.empty] none 0 0 (some R) 1 1 (.inr (fun b h=>by cases h)) (IntsAt.nil _ _ _) (ActsAt.one (h.b 3) (h.newb 3) ⟨m,pn,r,rfl,h.nums 2⟩) h.ch ?_)));simp[qbE,atP, *]
   refine qa4 9 _ (by kernel_rfl) rfl (zs h 1 fun u h=>?_);refine zHs h<|yK 8 (zB [iX 3,rX 0,uX c,.string p.marks,.slice (m.map at0) pn r,oX] 190 1 h fun u S h=>?_);refine q8<|yd [10] [] .z<|yDe (nS ?_);refine q9 (rB (rS (qfh (.a (h.cs 1 0 9) .z) (atP 0) [Ac.mk 3 0 c p.marks p.params ByteArray.empty] none 0 0 (some S) 1 1 (.inr (fun b h=>by cases h)) (IntsAt.nil _ _ _) (ActsAt.one (h.b 3) (h.newb 3) ⟨m,pn,r,rfl,h.nums 2⟩) h.ch ?_)));simp[qbE,atP, *]
  refine ysr<|yp 5 [] (.l (h.c 0 5) .z)<|yw [77] (rE ((p.marks).size:Int) 2) (fun k=>?_) fun k=>?_
  ·refine yz 9<|yct<|q7<|yq 1<|yo (zs h 0 fun u h=>?_);refine yE (nB (nS ?_));refine ysr<|yp 1 [] (.a (h.cs 0 0 9) .z)<|yo (zs h 1 fun u h=>?_);refine yz 3<|q9 (qfh (.a (h.cs 1 0 9) .z) {p with state:=4} [] po pn pc none 0 0 (.inl ⟨rfl,rfl,rfl,rfl⟩) (hP.ch h.ch fun _ _ h=>h.elim).old (ActsAt.nil _ _) h.ch ?_);simp[qbE,atP, *]
  refine yz 9<|yc (rE c 58) (fun T=>?_) fun T=>?_
  ·refine q7<|yq 1<|yo (zs h 0 fun u h=>?_);refine yE (nB (nS ?_));refine ysr<|yp 1 [] (.a (h.cs 0 0 9) .z)<|yo (zs h 1 fun u h=>?_);refine yz 3<|q9 (qfh (.a (h.cs 1 0 9) .z) {p with state:=4} [] po pn pc none 0 0 (.inl ⟨rfl,rfl,rfl,rfl⟩) (hP.ch h.ch fun _ _ h=>h.elim).old (ActsAt.nil _ _) h.ch ?_);simp[qbE,atP, *]
  refine q7<|yp 3 [] (.l (h.c 0 5) .z)<|yo (zB [uX c] 5 1 h fun u U h=>?_);refine yo (qE (some ⟨U,0,none⟩) 1 1 [c] (some 12) (by kernel_rfl) (Rd.all (h.b 2)) rfl ?_);refine yp 7 [] (.p (q:=(p.marks).size+((qf [c])).size<=9223372036854775807) (by simp only[qb5];omega) .z)<|yo (zs h 0 fun u h=>?_);refine yE (nB (nS ?_));refine ysr<|yp 1 [] (.a (h.cs 0 0 9) .z)<|yo (zs h 1 fun u h=>?_);refine yz 3<|q9 (qfh (.a (h.cs 1 0 9) .z) {p with marks:=(p.marks++(qf [c]))} [] po pn pc none 0 0 (.inl ⟨rfl,rfl,rfl,rfl⟩) (hP.ch h.ch fun _ _ h=>h.elim).old (ActsAt.nil _ _) h.ch ?_);simp[qbE,atP, *]
 refine yz 7<|ycf<|yx 3<|yc (rE c 59) (fun s=>?_) fun s=>?_
 ·exfalso;omega
 refine yx 3<|yc (rM 64 c) (fun t=>?_) fun t=>?_
 ·exfalso;omega
 refine ysr<|yp 5 [] (.l (h.c 0 5) .z)<|yw [77] (rE ((p.marks).size:Int) 2) (fun j=>?_) fun j=>?_
 ·refine yz 9<|yct<|q7<|yq 1<|yo (zs h 0 fun u h=>?_);refine yE (nB (nS ?_));refine ysr<|yp 1 [] (.a (h.cs 0 0 9) .z)<|yo (zs h 1 fun u h=>?_);refine yz 3<|q9 (qfh (.a (h.cs 1 0 9) .z) {p with state:=4} [] po pn pc none 0 0 (.inl ⟨rfl,rfl,rfl,rfl⟩) (hP.ch h.ch fun _ _ h=>h.elim).old (ActsAt.nil _ _) h.ch ?_);simp[qbE,atP, *]
 refine yz 9<|yc (rE c 58) (fun k=>?_) fun k=>?_
 ·exfalso;omega
 refine q7<|yp 3 [] (.l (h.c 0 5) .z)<|yo (zB [uX c] 5 1 h fun u V h=>?_);refine yo (qE (some ⟨V,0,none⟩) 1 1 [c] (some 12) (by kernel_rfl) (Rd.all (h.b 2)) rfl ?_);refine yp 7 [] (.p (q:=(p.marks).size+((qf [c])).size<=9223372036854775807) (by simp only[qb5];omega) .z)<|yo (zs h 0 fun u h=>?_);refine yE (nB (nS ?_));refine ysr<|yp 1 [] (.a (h.cs 0 0 9) .z)<|yo (zs h 1 fun u h=>?_);refine yz 3<|q9 (qfh (.a (h.cs 1 0 9) .z) {p with marks:=(p.marks++(qf [c]))} [] po pn pc none 0 0 (.inl ⟨rfl,rfl,rfl,rfl⟩) (hP.ch h.ch fun _ _ h=>h.elim).old (ActsAt.nil _ _) h.ch ?_);simp[qbE,atP, *]
def firstN (c:Nat):Int:=
 if c<128 then 240 else if c<194 then 241 else if c<224 then 2 else if c=224 then 19 else if c<237 then 3 else if c=237 then 35 else if c<240 then 3 else if c=240 then 52 else if c<244 then 4 else if c=244 then 68 else 241
def accN (i:Nat):Int×Int:=if i=0 then(128,191)else if i=1 then(160,191)else if i=2 then(128,159)else if i=3 then(144,191)else if i=4 then(128,143)else(0,0)
abbrev qfK:Nat:=1
abbrev gAcc:Nat:=2
def qcD (w:World):Prop:=
 (∀c,c<256->w.cell? ⟨qfK,c,none⟩=some (.int .u8 (firstN c)))/\
 ∀i,i<16->w.cell? ⟨gAcc,i*2,none⟩=some (.int .u8 (accN i).1)/\w.cell? ⟨gAcc,i*2+1,none⟩=some (.int .u8 (accN i).2)
theorem u_lt:qfK<gTop/\gAcc<gTop:=by decide
theorem qaf {w w':World}{B:Nat->Prop}(h:Ch B w w')(hT:qcD w)(h0:¬B qfK)(h1:¬B gAcc):qcD w':=
 ⟨fun j hj=>qg h (hT.1 j hj) h0,fun j hj=>⟨qg h (hT.2 j hj).1 h1,qg h (hT.2 j hj).2 h1⟩⟩
theorem qiu {w:World}(h:qcD w):qfK<w.heap.size/\gAcc<w.heap.size:=⟨cell_lt (h.1 0 (by decide)),cell_lt (h.2 0 (by decide)).1⟩
theorem qoM {w:World}(h:qcD w)(x:Int)(h0:0<=x)(h1:x<=255):w.cell? ⟨qfK,0+x.toNat*1,none⟩=some (.int .u8 (firstN x.toNat)):=by
 rw[iJ,iN];exact h.1 _ (by omega)
theorem u_acc {w:World}(h:qcD w)(x:Int)(h0:0<=x)(h1:x<=15):w.cell? ⟨gAcc,0+x.toNat*2,none⟩=some (.int .u8 (accN x.toNat).1)/\w.cell? ⟨gAcc,0+x.toNat*2+1,none⟩=some (.int .u8 (accN x.toNat).2):=by
 rw[iJ];exact h.2 _ (by omega)
theorem qcv {w:World}{b off:Nat}{l:List Int}(h:Rd w (some ⟨b,off,none⟩) (l.map (Value.int .u8)))(k:Nat)(hk:k<l.length):w.cell? ⟨b,off+k,none⟩=some (.int .u8 (l.getD k 0)):=by
 refine qcg h k _ ?_;rw[iM,ig hk];simp[List.getD,ig hk]
theorem qeJ {w:World}{b off:Nat}{l:List Int}(h:Rd w (some ⟨b,off,none⟩) (l.map (Value.int .u8)))(hk:0<l.length):w.cell? ⟨b,off,none⟩=some (.int .u8 (l.getD 0 0)):=qcv h 0 hk
theorem qdR (op:BinOp)(a b:Int):0<=qe op .u8 a b/\qe op .u8 a b<=255:=by
 have c:∀n:Int,0<=IntKind.wrap .u8 n/\IntKind.wrap .u8 n<=255:=fun n=>by
  simp only[IntKind.wrap,IntKind.bits,IntKind.signed];constructor
  ·simp;omega
  ·simp;omega
 unfold qe;cases op<;>exact c _
abbrev fsI (l:List Int):Int:=firstN (l.getD 0 0).toNat
abbrev szI (l:List Int):Int:=qe .and .u8 (fsI l) 7
abbrev rnI (l:List Int):Int:=Int.fdiv (fsI l) (2^min (4:Int).toNat (IntKind.bits .u8))
theorem first_bd:∀c,c<256->(0<=firstN c/\firstN c<=255)/\(0<=Int.fdiv (firstN c) (2^min (4:Int).toNat (IntKind.bits .u8))/\Int.fdiv (firstN c) (2^min (4:Int).toNat (IntKind.bits .u8))<=15)/\(0<=qe .and .u8 (firstN c) 7/\qe .and .u8 (firstN c) 7<=7)/\(firstN c<240->2<=qe .and .u8 (firstN c) 7/\qe .and .u8 (firstN c) 7<=4):=by decide+kernel
theorem fs_bd {l:List Int}(h:∀x∈l,0<=x/\x<=255):(0<=fsI l/\fsI l<=255)/\(0<=rnI l/\rnI l<=15)/\(0<=szI l/\szI l<=7)/\(fsI l<240->2<=szI l/\szI l<=4):=
 first_bd _ (by have:=qaM h (by decide) 0;omega)
def qbT (l:List Int):Bool:=
 if(l.length:Int)=0 then false
 else if szI l<=(l.length:Int)then true
 else if 1<(l.length:Int)/\(l.getD 1 0<(accN (rnI l).toNat).1\/(accN (rnI l).toNat).2<l.getD 1 0)then true
 else if 2<(l.length:Int)/\(l.getD 2 0<128\/191<l.getD 2 0)then true
 else false
abbrev shI (a k:Int):Int:=IntKind.wrap .i32 (a*2^min k.toNat (IntKind.bits .i32))
abbrev andB (a b:Int):Int:=qe .and .u8 a b
abbrev orR (a b:Int):Int:=qe .or .i32 a b
abbrev maskI (l:List Int):Int:=Int.fdiv (shI (fsI l) 31) (2^min (31:Int).toNat (IntKind.bits .i32))
def qhF (l:List Int):Int×Int:=
 if(l.length:Int)<1 then(65533,0)
 else if 240<=fsI l then(orR (qe .andNot .i32 (l.getD 0 0) (maskI l)) (qe .and .i32 65533 (maskI l)),1)
 else if(l.length:Int)<szI l then(65533,1)
 else if l.getD 1 0<(accN (rnI l).toNat).1\/(accN (rnI l).toNat).2<l.getD 1 0 then(65533,1)
 else if szI l<=2 then(orR (shI (andB (l.getD 0 0) 31) 6) (andB (l.getD 1 0) 63),2)
 else if l.getD 2 0<128\/191<l.getD 2 0 then(65533,1)
 else if szI l<=3 then(orR (orR (shI (andB (l.getD 0 0) 15) 12) (shI (andB (l.getD 1 0) 63) 6)) (andB (l.getD 2 0) 63),3)
 else if l.getD 3 0<128\/191<l.getD 3 0 then(65533,1)
 else(orR (orR (orR (shI (andB (l.getD 0 0) 7) 18) (shI (andB (l.getD 1 0) 63) 12)) (shI (andB (l.getD 2 0) 63) 6)) (andB (l.getD 3 0) 63),4)
def qiv (l:List Int):Int×Int:=if 0<(l.length:Int)/\l.getD 0 0<128 then(l.getD 0 0,1)else qhF l
theorem qkS {l:List Int}(h:∀x∈l,0<=x/\x<=255)(h0:0<l.length):1<=(qiv l).2/\(qiv l).2<=(l.length:Int):=by
 obtain⟨_,_,_,a⟩:=fs_bd h;unfold qiv qhF
 repeat' split
 all_goals (try dsimp only)
 all_goals omega
def itU (l:List Int):Nat->List Int×List Int
 |0=>([],l)
 |k+1=>if 0<(itU l k).2.length/\qbT (itU l k).2=true then((itU l k).1++[(qiv (itU l k).2).1],(itU l k).2.drop (qiv (itU l k).2).2.toNat)else itU l k
theorem qhG {l:List Int}{k:Nat}(h1:0<(itU l k).2.length)(h2:qbT (itU l k).2=true):itU l (k+1)=((itU l k).1++[(qiv (itU l k).2).1],(itU l k).2.drop (qiv (itU l k).2).2.toNat):=if_pos ⟨h1,h2⟩
theorem qiw {l:List Int}{k:Nat}(h:¬(0<(itU l k).2.length/\qbT (itU l k).2=true))(j:Nat):itU l (k+j)=itU l k:=by
 induction j with
 |zero=>rfl
 |succ j ih=>
  show(if 0<(itU l (k+j)).2.length/\qbT (itU l (k+j)).2=true then _ else itU l (k+j))=itU l k;rw[ih,if_neg h]
theorem qdq {l:List Int}(h:∀x∈l,0<=x/\x<=255)(k:Nat):∀x∈(itU l k).2,0<=x/\x<=255:=by
 induction k with
 |zero=>exact h
 |succ k ih=>
  unfold itU;split
  ·exact fun x hx=>ih x (iW hx)
  ·exact ih
theorem itU_len {l:List Int}(h:∀x∈l,0<=x/\x<=255)(k:Nat):(itU l k).1.length<=k/\(itU l k).2.length+(itU l k).1.length<=l.length:=by
 induction k with
 |zero=>simp[itU]
 |succ k ih=>
  unfold itU;split
  ·rename_i hc
   have:=qkS (qdq h k) hc.1;simp only[hJ,iz,iP,iG];omega
  ·omega
theorem qoN {w:World}{b off cap n:Nat}{ys:List Value}(h:Rd w (some ⟨b,off,none⟩) ys)(hl:ys.length<=cap):Rd w (some ⟨b,if cap=n then off else off+n*1,none⟩) (ys.drop n):=by
 by_cases e:cap=n
 ·rw[show ys.drop n=[]from jF (by omega)];exact Rd.nil _ _
 ·rw[if_neg e,iN]
  refine⟨(fun e=>by cases e),fun ad e j u hj=>?_⟩;obtain rfl:=ia e;have:=h.2 _ rfl (n+j) u (by rw[<-hj,jg]);rw[qaZ]at this⊢;rw[show off+n+j=off+(n+j) by omega];exact this
def US.pend (u:US):List Int:=[u.b0,u.b1,u.b2].take u.n.toNat
def mkU (l:List Int):US:=⟨l.getD 0 0,l.getD 1 0,l.getD 2 0,(l.length:Int)⟩
def u0:US:=⟨0,0,0,0⟩
def qdg (u:US)(c:Int):US×List Int:=(mkU ((itU (u.pend++[c]) 4).2.take 3),(itU (u.pend++[c]) 4).1)
structure US.ok (u:US):Prop where
 n:0<=u.n/\u.n<=3
 b0:0<=u.b0/\u.b0<=255
 b1:0<=u.b1/\u.b1<=255
 b2:0<=u.b2/\u.b2<=255
theorem US.ok.pend {u:US}(h:u.ok):∀x∈u.pend,0<=x/\x<=255:=fun x hx=>by
 have:=iS hx
 simp only[j9,jf,or_false]at this
 rcases this with rfl|rfl|rfl
 ·exact h.b0
 ·exact h.b1
 ·exact h.b2
theorem US.ok.len {u:US}(h:u.ok):u.pend.length=u.n.toNat:=by
 have:=h.n;simp[US.pend];omega
theorem US.ok.rd {u:US}(h:u.ok){w:World}{b:Nat}{T:TypeId}(hb:Blk w b [.int .u8 u.b0,.int .u8 u.b1,.int .u8 u.b2,.int .i64 u.n] T):Rd w (some ⟨b,0,none⟩) (u.pend.map (Value.int .u8)):=by
 have a:=h.n;refine Rd.blk hb fun j hj=>?_;rw[hZ,h.len]at hj;rw[iM,iJ,US.pend,j5,if_pos hj];have:j=0\/j=1\/j=2:=by omega
 rcases this with rfl|rfl|rfl<;>rfl
theorem qjE {w:World}{b:Nat}{T:TypeId}{l:List Int}{n:Int}(h3:l.length<=3)(hn:n=(l.length:Int))(hb:Blk w b (put [.int .u8 0,.int .u8 0,.int .u8 0,.int .i64 0] 0 (l.map (Value.int .u8))) T):
  Blk w b [.int .u8 (mkU l).b0,.int .u8 (mkU l).b1,.int .u8 (mkU l).b2,.int .i64 0] T:=by
 match l,h3 with
 |[],_=>exact hb
 |[_],_=>exact hb
 |[_,_],_=>exact hb
 |[_,_,_],_=>exact hb
theorem qoO {l:List Int}(h:∀x∈l,0<=x/\x<=255)(h3:l.length<=3):(mkU l).ok:=
 ⟨⟨by simp[mkU],by simp[mkU];omega⟩,qaM h (by decide) 0,qaM h (by decide) 1,qaM h (by decide) 2⟩
theorem qcw {w:World}(b off cap:Nat)(l:List Int)(hU:qcD w)(hr:Rd w (some ⟨b,off,none⟩) (l.map (Value.int .u8)))(hb:b<w.heap.size)(hB:∀x∈l,0<=x/\x<=255)(hn:l.length<=1000):CP 172 [.slice (some ⟨b,off,none⟩) l.length cap].toArray w (RQ (.bool (qbT l)) w):=by
 have R:=qaM hB (by decide) 0;have S:=qaM hB (by decide) 1;have T:=qaM hB (by decide) 2;have U:=qaM hB (by decide) 3;obtain⟨⟨D,E⟩,⟨F,G⟩,⟨H,I⟩,J⟩:=fs_bd hB;unfold fsI at D E;unfold rnI fsI at F G;unfold szI fsI at H I;unfold fsI szI fsI at J;refine yA Tryz.func172 rfl<|yx 1<|yx 3<|ys<|yx 2<|yc (rE (l.length:Int) 0) (fun a=>?_) fun a=>?_
 ·refine yx 1<|q9 (rS (yR1 (xF) ?_));refine⟨zc ?_,Up.ch (zm w)⟩;simp only[qbT,a,↓reduceIte,true_or,or_true,and_true,true_and,jb,ja,or_false,false_or]
 refine yk<|ysr<|yp 6 [] (.i 0 (l.length) (.l (v:=uX (l.getD 0 0)) (o:=off) (qeJ hr (by omega)) (.i (l.getD 0 0) (256) (.l (o:=(0+((l.getD 0 0)).toNat*1)) (qoM hU ((l.getD 0 0)) (by omega) (by omega)) .z))))<|ye<|ys<|ysr<|yp 5 [] (.q6 (qe .and .u8 (firstN ((l.getD 0 0):Int).toNat) 7) .z)<|ye<|yc (rM (qe .and .u8 (firstN ((l.getD 0 0):Int).toNat) 7) (l.length:Int)) (fun f=>?_) fun f=>?_
 ·refine yx 1<|q9 (rS (yR1 (.bool true) ?_));refine⟨zc ?_,Up.ch (zm w)⟩;simp only[qbT,a,f,↓reduceIte,true_or,or_true,and_true,true_and,jb,ja,or_false,false_or]
 refine yk<|ysr<|yp 4 [] (.p (q:=0<=(4:Int)) (by omega) (.i (Int.fdiv (firstN ((l.getD 0 0):Int).toNat) (2^min (4:Int).toNat (IntKind.bits .u8))) (16) (.m (u_acc hU ((Int.fdiv (firstN ((l.getD 0 0):Int).toNat) (2^min (4:Int).toNat (IntKind.bits .u8)))) (by omega) (by omega)).1 (.m (u_acc hU ((Int.fdiv (firstN ((l.getD 0 0):Int).toNat) (2^min (4:Int).toNat (IntKind.bits .u8)))) (by omega) (by omega)).2 (.e .z)))))<|yo (yN [uX 0,uX 0] 261 fun V y K W L A=>?_);have X:=zn K (zm w);have M:=zu (zm w) A iZ;have N:=Ch.rd A hr id;refine yo (yT [uX (accN ((Int.fdiv (firstN ((l.getD 0 0):Int).toNat) (2^min (4:Int).toNat (IntKind.bits .u8))):Int).toNat).1,uX (accN ((Int.fdiv (firstN ((l.getD 0 0):Int).toNat) (2^min (4:Int).toNat (IntKind.bits .u8))):Int).toNat).2] L fun Y O B=>?_);have P:=zu M B (fun i hi (h:i=y)=>by omega);have Q:=Ch.rd B N (fun(h:b=y)=>by have:=(ic hb (zzs (zm w)));omega);refine ye<|ys<|ys<|yD [] fun Z a0 t=>?_;have j:=zu P t iZ;have r:=Ch.rd t Q id;have C:=O.ch t id;refine yd (uL 0 3) [] .z<|yv [26] (rL 1 (l.length:Int)) (fun g=>?_) fun g=>?_
 ·refine yd (uL 3 7) [] (.i 1 (l.length) (.l (v:=uX (l.getD 1 0)) (o:=(off+1)) (qcv r 1 (by omega)) (.l (C.c 0) .z)))<|yv [33] (rL (l.getD 1 0) (accN ((Int.fdiv (firstN ((l.getD 0 0):Int).toNat) (2^min (4:Int).toNat (IntKind.bits .u8))):Int).toNat).1) (fun d=>?_) fun d=>?_
  ·refine yd (uL 10 8) [] .z<|yDe (nS ?_);refine yct<|yx 1<|q9 (rS (yR1 (.bool true) ?_));refine⟨zc ?_,Up.ch j⟩;simp only[qbT,a,f,g,d,↓reduceIte,true_or,or_true,and_true,true_and,jb,ja,or_false,false_or]
  refine yd (uL 10 8) [] (.l (C.c 1) (.i 1 (l.length) (.l (v:=uX (l.getD 1 0)) (o:=(off+1)) (qcv r 1 (by omega)) .z)))<|yDe (nS ?_);refine yc (rL (accN ((Int.fdiv (firstN ((l.getD 0 0):Int).toNat) (2^min (4:Int).toNat (IntKind.bits .u8))):Int).toNat).2 (l.getD 1 0)) (fun k=>?_) fun k=>?_
  ·refine yx 1<|q9 (rS (yR1 (.bool true) ?_));refine⟨zc ?_,Up.ch j⟩;simp only[qbT,a,f,g,d,k,↓reduceIte,true_or,or_true,and_true,true_and,jb,ja,or_false,false_or]
  refine ysr<|yq 3<|yw [44] (rL 2 (l.length:Int)) (fun n=>?_) fun n=>?_
  ·refine yp 8 [] (.i 2 (l.length) (.l (v:=uX (l.getD 2 0)) (o:=(off+2)) (qcv r 2 (by omega)) .z))<|yw [49] (rL (l.getD 2 0) 128) (fun s=>?_) fun s=>?_
   ·refine yz 14<|yct<|yx 1<|q9 (rS (yR1 (.bool true) ?_));refine⟨zc ?_,Up.ch j⟩;simp only[qbT,a,f,g,d,k,n,s,↓reduceIte,true_or,or_true,and_true,true_and,jb,ja,or_false,false_or]
   refine yp 14 [] (.i 2 (l.length) (.l (v:=uX (l.getD 2 0)) (o:=(off+2)) (qcv r 2 (by omega)) .z))<|ye<|yc (rL 191 (l.getD 2 0)) (fun u=>?_) fun u=>?_
   ·refine yx 1<|q9 (rS (yR1 (.bool true) ?_));refine⟨zc ?_,Up.ch j⟩;simp only[qbT,a,f,g,d,k,n,s,u,↓reduceIte,true_or,or_true,and_true,true_and,jb,ja,or_false,false_or]
   refine yk<|yx 1<|q9 (yR1 (xF) ?_);refine⟨zc ?_,Up.ch j⟩;simp only[qbT,a,f,g,d,k,n,s,u,↓reduceIte,true_or,or_true,and_true,true_and,jb,ja,or_false,false_or]
  refine yz 14<|ycf<|yk<|yx 1<|q9 (yR1 (xF) ?_);refine⟨zc ?_,Up.ch j⟩;simp only[qbT,a,f,g,d,k,n,↓reduceIte,true_or,or_true,and_true,true_and,jb,ja,or_false,false_or]
 refine yd (uL 3 15) [] .z<|yDe (nS ?_);refine ycf<|ysr<|yq 3<|yw [44] (rL 2 (l.length:Int)) (fun d=>?_) fun d=>?_
 ·exfalso;omega
 refine yz 14<|ycf<|yk<|yx 1<|q9 (yR1 (xF) ?_);refine⟨zc ?_,Up.ch j⟩;simp only[qbT,a,f,g,d,↓reduceIte,true_or,or_true,and_true,true_and,jb,ja,or_false,false_or]
theorem qgw {w:World}(b off cap:Nat)(l:List Int)(hU:qcD w)(hr:Rd w (some ⟨b,off,none⟩) (l.map (Value.int .u8)))(hb:b<w.heap.size)(hB:∀x∈l,0<=x/\x<=255)(hn:l.length<=1000):CP 196 [.slice (some ⟨b,off,none⟩) l.length cap].toArray w (RQ (.tuple #[rX (qhF l).1,iX (qhF l).2]) w):=by
 have Q:=qaM hB (by decide) 0;have R:=qaM hB (by decide) 1;have S:=qaM hB (by decide) 2;have T:=qaM hB (by decide) 3;obtain⟨⟨F,G⟩,⟨H,I⟩,⟨J,K⟩,L⟩:=fs_bd hB;unfold fsI at F G;unfold rnI fsI at H I;unfold szI fsI at J K;unfold fsI szI fsI at L;have U:=qdR .and (l.getD 0 0) 31;have V:=qdR .and (l.getD 1 0) 63;have W:=qdR .and (l.getD 0 0) 15;have X:=qdR .and (l.getD 2 0) 63;have Y:=qdR .and (l.getD 0 0) 7;have Z:=qdR .and (l.getD 3 0) 63;refine yA Tryz.func196 rfl<|yx 2<|yx 3<|ys<|yx 2<|yc (rL (l.length:Int) 1) (fun a=>?_) fun a=>?_
 ·refine yx 2<|q9 (rS (yR2 [rX 65533,iX 0] .z ?_));refine⟨?_,Up.ch (zm w)⟩;simp only[qhF,a,↓reduceIte,true_or,or_true,and_true,true_and,jb,ja,or_false,false_or]
 refine yk<|ysr<|yp 4 [] (.i 0 (l.length) (.l (v:=uX (l.getD 0 0)) (o:=off) (qeJ hr (by omega)) .z))<|ye<|ysr<|yp 4 [] (.i (l.getD 0 0) (256) (.l (o:=(0+((l.getD 0 0)).toNat*1)) (qoM hU ((l.getD 0 0)) (by omega) (by omega)) .z))<|ye<|ys<|yx 2<|yc (rM 240 (firstN ((l.getD 0 0):Int).toNat)) (fun d=>?_) fun d=>?_
 ·refine ysr<|yp 5 [] (.q3 (firstN ((l.getD 0 0):Int).toNat) (.p (q:=0<=(31:Int)) (by omega) (.p (q:=0<=(31:Int)) (by omega) .z)))<|ye<|ysr<|yp 11 [] (.i 0 (l.length) (.l (v:=uX (l.getD 0 0)) (o:=off) (qeJ hr (by omega)) (.q3 (l.getD 0 0) .z)))<|ye<|q9 (rS (yR2 [rX (qe .or .i32 (qe .andNot .i32 (l.getD 0 0) (Int.fdiv (IntKind.wrap .i32 ((firstN ((l.getD 0 0):Int).toNat)*2^min (31:Int).toNat (IntKind.bits .i32))) (2^min (31:Int).toNat (IntKind.bits .i32)))) (qe .and .i32 65533 (Int.fdiv (IntKind.wrap .i32 ((firstN ((l.getD 0 0):Int).toNat)*2^min (31:Int).toNat (IntKind.bits .i32))) (2^min (31:Int).toNat (IntKind.bits .i32))))),iX 1] .z ?_));refine⟨?_,Up.ch (zm w)⟩;simp only[qhF,a,d,↓reduceIte,true_or,or_true,and_true,true_and,jb,ja,or_false,false_or]
 refine yk<|ysr<|yp 4 [] (.q6 (qe .and .u8 (firstN ((l.getD 0 0):Int).toNat) 7) .z)<|ye<|ysr<|yp 4 [] (.p (q:=0<=(4:Int)) (by omega) (.i (Int.fdiv (firstN ((l.getD 0 0):Int).toNat) (2^min (4:Int).toNat (IntKind.bits .u8))) (16) (.m (u_acc hU ((Int.fdiv (firstN ((l.getD 0 0):Int).toNat) (2^min (4:Int).toNat (IntKind.bits .u8)))) (by omega) (by omega)).1 (.m (u_acc hU ((Int.fdiv (firstN ((l.getD 0 0):Int).toNat) (2^min (4:Int).toNat (IntKind.bits .u8)))) (by omega) (by omega)).2 (.e .z)))))<|yo (yN [uX 0,uX 0] 261 fun a0 B M a1 N C=>?_);have a2:=zn M (zm w);have O:=zu (zm w) C iZ;have P:=Ch.rd C hr id;refine yo (yT [uX (accN ((Int.fdiv (firstN ((l.getD 0 0):Int).toNat) (2^min (4:Int).toNat (IntKind.bits .u8))):Int).toNat).1,uX (accN ((Int.fdiv (firstN ((l.getD 0 0):Int).toNat) (2^min (4:Int).toNat (IntKind.bits .u8))):Int).toNat).2] N fun a3 D E=>?_);have g:=zu O E (fun i hi (h:i=B)=>by omega);have y:=Ch.rd E P (fun(h:b=B)=>by have:=(ic hb (zzs (zm w)));omega);refine ye<|ys<|yx 3<|yc (rL (l.length:Int) (qe .and .u8 (firstN ((l.getD 0 0):Int).toNat) 7)) (fun f=>?_) fun f=>?_
 ·refine yx 2<|q9 (rS (yR2 [rX 65533,iX 1] .z ?_));refine⟨?_,Up.ch g⟩;simp only[qhF,a,d,f,↓reduceIte,true_or,or_true,and_true,true_and,jb,ja,or_false,false_or]
 refine yk<|ysr<|yp 4 [] (.i 1 (l.length) (.l (v:=uX (l.getD 1 0)) (o:=(off+1)) (qcv y 1 (by omega)) .z))<|ye<|ys<|ysr<|yp 5 [] (.l (D.c 0) .z)<|yw [55] (rL (l.getD 1 0) (accN ((Int.fdiv (firstN ((l.getD 0 0):Int).toNat) (2^min (4:Int).toNat (IntKind.bits .u8))):Int).toNat).1) (fun j=>?_) fun j=>?_
 ·refine yz 10<|yct<|yx 2<|q9 (rS (yR2 [rX 65533,iX 1] .z ?_));refine⟨?_,Up.ch g⟩;simp only[qhF,a,d,f,j,↓reduceIte,true_or,or_true,and_true,true_and,jb,ja,or_false,false_or]
 refine yp 10 [] (.l (D.c 1) .z)<|ye<|yc (rL (accN ((Int.fdiv (firstN ((l.getD 0 0):Int).toNat) (2^min (4:Int).toNat (IntKind.bits .u8))):Int).toNat).2 (l.getD 1 0)) (fun k=>?_) fun k=>?_
 ·refine yx 2<|q9 (rS (yR2 [rX 65533,iX 1] .z ?_));refine⟨?_,Up.ch g⟩;simp only[qhF,a,d,f,j,k,↓reduceIte,true_or,or_true,and_true,true_and,jb,ja,or_false,false_or]
 refine yk<|ys<|yx 2<|yc (rM (qe .and .u8 (firstN ((l.getD 0 0):Int).toNat) 7) 2) (fun n=>?_) fun n=>?_
 ·refine ysr<|yp 10 [] (.q3 (qe .and .u8 (l.getD 0 0) 31) (.p (q:=0<=(6:Int)) (by omega) (.q3 (qe .and .u8 (l.getD 1 0) 63) .z)))<|ye<|q9 (rS (yR2 [rX (qe .or .i32 (IntKind.wrap .i32 ((qe .and .u8 (l.getD 0 0) 31)*2^min (6:Int).toNat (IntKind.bits .i32))) (qe .and .u8 (l.getD 1 0) 63)),iX 2] .z ?_));refine⟨?_,Up.ch g⟩;simp only[qhF,a,d,f,j,k,n,↓reduceIte,true_or,or_true,and_true,true_and,jb,ja,or_false,false_or]
 refine yk<|ysr<|yp 4 [] (.i 2 (l.length) (.l (v:=uX (l.getD 2 0)) (o:=(off+2)) (qcv y 2 (by omega)) .z))<|ye<|ys<|ysr<|yq 3<|yw [76] (rL (l.getD 2 0) 128) (fun r=>?_) fun r=>?_
 ·refine yz 6<|yct<|yx 2<|q9 (rS (yR2 [rX 65533,iX 1] .z ?_));refine⟨?_,Up.ch g⟩;simp only[qhF,a,d,f,j,k,n,r,↓reduceIte,true_or,or_true,and_true,true_and,jb,ja,or_false,false_or]
 refine yz 6<|yc (rL 191 (l.getD 2 0)) (fun s=>?_) fun s=>?_
 ·refine yx 2<|q9 (rS (yR2 [rX 65533,iX 1] .z ?_));refine⟨?_,Up.ch g⟩;simp only[qhF,a,d,f,j,k,n,r,s,↓reduceIte,true_or,or_true,and_true,true_and,jb,ja,or_false,false_or]
 refine yk<|ys<|yx 2<|yc (rM (qe .and .u8 (firstN ((l.getD 0 0):Int).toNat) 7) 3) (fun t=>?_) fun t=>?_
 ·refine ysr<|yp 15 [] (.q3 (qe .and .u8 (l.getD 0 0) 15) (.p (q:=0<=(12:Int)) (by omega) (.q3 (qe .and .u8 (l.getD 1 0) 63) (.p (q:=0<=(6:Int)) (by omega) (.q3 (qe .and .u8 (l.getD 2 0) 63) .z)))))<|ye<|q9 (rS (yR2 [rX (qe .or .i32 (qe .or .i32 (IntKind.wrap .i32 ((qe .and .u8 (l.getD 0 0) 15)*2^min (12:Int).toNat (IntKind.bits .i32))) (IntKind.wrap .i32 ((qe .and .u8 (l.getD 1 0) 63)*2^min (6:Int).toNat (IntKind.bits .i32)))) (qe .and .u8 (l.getD 2 0) 63)),iX 3] .z ?_));refine⟨?_,Up.ch g⟩;simp only[qhF,a,d,f,j,k,n,r,s,t,↓reduceIte,true_or,or_true,and_true,true_and,jb,ja,or_false,false_or]
 refine yk<|ysr<|yp 4 [] (.i 3 (l.length) (.l (v:=uX (l.getD 3 0)) (o:=(off+3)) (qcv y 3 (by omega)) .z))<|ye<|ys<|ysr<|yq 3<|yw [100] (rL (l.getD 3 0) 128) (fun u=>?_) fun u=>?_
 ·refine yz 6<|yct<|yx 2<|q9 (rS (yR2 [rX 65533,iX 1] .z ?_));refine⟨?_,Up.ch g⟩;simp only[qhF,a,d,f,j,k,n,r,s,t,u,↓reduceIte,true_or,or_true,and_true,true_and,jb,ja,or_false,false_or]
 refine yz 6<|yc (rL 191 (l.getD 3 0)) (fun A=>?_) fun A=>?_
 ·refine yx 2<|q9 (rS (yR2 [rX 65533,iX 1] .z ?_));refine⟨?_,Up.ch g⟩;simp only[qhF,a,d,f,j,k,n,r,s,t,u,A,↓reduceIte,true_or,or_true,and_true,true_and,jb,ja,or_false,false_or]
 refine yk<|ysr<|yp 20 [] (.q3 (qe .and .u8 (l.getD 0 0) 7) (.p (q:=0<=(18:Int)) (by omega) (.q3 (qe .and .u8 (l.getD 1 0) 63) (.p (q:=0<=(12:Int)) (by omega) (.q3 (qe .and .u8 (l.getD 2 0) 63) (.p (q:=0<=(6:Int)) (by omega) (.q3 (qe .and .u8 (l.getD 3 0) 63) .z)))))))<|ye<|q9 (yR2 [rX (qe .or .i32 (qe .or .i32 (qe .or .i32 (IntKind.wrap .i32 ((qe .and .u8 (l.getD 0 0) 7)*2^min (18:Int).toNat (IntKind.bits .i32))) (IntKind.wrap .i32 ((qe .and .u8 (l.getD 1 0) 63)*2^min (12:Int).toNat (IntKind.bits .i32)))) (IntKind.wrap .i32 ((qe .and .u8 (l.getD 2 0) 63)*2^min (6:Int).toNat (IntKind.bits .i32)))) (qe .and .u8 (l.getD 3 0) 63)),iX 4] .z ?_);refine⟨?_,Up.ch g⟩;simp only[qhF,a,d,f,j,k,n,r,s,t,u,A,↓reduceIte,true_or,or_true,and_true,true_and,jb,ja,or_false,false_or]
theorem qkT {w:World}(b off cap:Nat)(l:List Int)(hU:qcD w)(hr:Rd w (some ⟨b,off,none⟩) (l.map (Value.int .u8)))(hb:b<w.heap.size)(hB:∀x∈l,0<=x/\x<=255)(hn:l.length<=1000):CP 180 [.slice (some ⟨b,off,none⟩) l.length cap].toArray w (RQ (.tuple #[rX (qiv l).1,iX (qiv l).2]) w):=by
 have D:=qaM hB (by decide) 0;have E:=qaM hB (by decide) 1;have F:=qaM hB (by decide) 2;have G:=qaM hB (by decide) 3;obtain⟨⟨j,m⟩,⟨n,p⟩,⟨q,r⟩,s⟩:=fs_bd hB;unfold fsI at j m;unfold rnI fsI at n p;unfold szI fsI at q r;unfold fsI szI fsI at s;refine yA Tryz.func180 rfl<|yx 2<|ys<|yx 3<|qa<|qV [0,6,7,8] (f':=[(0,.slice (some ⟨b,off,none⟩) l.length cap),(6,.slice (some ⟨b,off,none⟩) l.length cap),(7,iX (l.length:Int)),(8,iX 0)])<|qw (σ:=Nat) (fun k=>[(0,.slice (some ⟨b,off,none⟩) l.length cap),(6,.slice (some ⟨b,off,none⟩) l.length cap),(7,iX (l.length:Int)),(8,iX 0)]) (fun k u=>Ch (fun _=>False) w u) (fun k=>k) 0 rfl ?_ ?_
 ·exact Ch.refl _ _
 intro k H t I J;have d:=t;have a:=zu (zm w) d iZ;have h:=qaf d hU id id;have f:=Ch.rd d hr id;refine yx 1<|ys<|yc (rL 0 (l.length:Int)) (fun c=>?_) fun c=>?_
 ·refine yk<|ys<|qa<|ysr<|yp 3 [] (.i 0 (l.length) (.l (v:=uX (l.getD 0 0)) (o:=off) (qeJ f (by omega)) .z))<|ye<|ys<|yx 2<|yc (rL (l.getD 0 0) 128) (fun g=>?_) fun g=>?_
  ·refine ysr<|yp 4 [] (.q3 (l.getD 0 0) .z)<|ye<|q9 (rS (rB (rS (qy (rB (rS (yR2 [rX (l.getD 0 0),iX 1] .z ?_)))))));refine⟨?_,Up.ch a⟩;simp only[qiv,c,g,↓reduceIte,true_or,or_true,and_true,true_and,jb,ja,or_false,false_or]
  refine yk<|qm (eB (eS (qd (qb (nS ?_)))));refine ysr<|yq 1<|yo (yQ (qgw b off cap l h f (ic hb (zzs a)) hB hn) fun K y=>?_);have A:=zu a y iZ;refine yz 7<|q9 (yR2 [rX (qhF l).1,iX (qhF l).2] .z ?_);refine⟨?_,Up.ch A⟩;simp only[qiv,c,g,↓reduceIte,true_or,or_true,and_true,true_and,jb,ja,or_false,false_or]
 refine qm (eS (qd (qb (nS ?_))));refine ysr<|yq 1<|yo (yQ (qgw b off cap l h f (ic hb (zzs a)) hB hn) fun L B=>?_);have C:=zu a B iZ;refine yz 7<|q9 (yR2 [rX (qhF l).1,iX (qhF l).2] .z ?_);refine⟨?_,Up.ch C⟩;simp only[qiv,c,↓reduceIte,true_or,or_true,and_true,true_and,jb,ja,or_false,false_or]
theorem qnd {N:Nat}{f:Fr}{w:World}{Q:Exit->Act->World->Prop}{id l:Nat}(h:∀a,Has N f a->Q (.goto l) a w):∀a,Has N f a->Exit.inBlock id Q (.goto l) a w:=h
theorem Own.ltOf {w:World}{e:TypeId}{sz n cap b:Nat}{o:Option Nat}{xs:List Value}(h:Own w e sz o n cap xs)(ho:o=some b):b<w.heap.size:=by subst ho;exact h.lt
def qcp (l:List Ac):List Value:=(l.map fun a=>a.vals (.slice none 0 0)).flatten
theorem qfr (l:List Ac)(a:Ac):qcp l++a.vals (.slice none 0 0)=qcp (l++[a]):=by simp[qcp]
theorem qeK (l:List Ac):(qcp l).length=l.length*6:=by
 induction l with
 |nil=>rfl
 |cons a l ih=>
  have:qcp (a::l)=a.vals (.slice none 0 0)++qcp l:=by simp[qcp]
  rw[this,hJ,ih];simp[Ac.vals];omega
theorem qcj {w:World}{o:Option Nat}{n c:Nat}{l:List Ac}{K:Nat->Prop}(h:Own w qo0 6 o n c (qcp l))(hp:∀a∈l,a.params=[])(hK:∀b,o=some b->K b):ActsAt w o n c l K:=by
 have hn:=h.1;rw[qeK]at hn;refine⟨⟨l.map fun a:Ac=>a.vals (.slice none 0 0),h,by simp,fun i hi d=>?_⟩,by omega,hK⟩;refine⟨none,0,0,?_,by rw[hp _ (jG hi)];exact IntsAt.nil _ _ _⟩;rw[ke];rfl
theorem take_acP (l:List Int)(k:Nat)(h:k<l.length)(al:List Ac):(al++(l.take k).map acP)++[acP (l.getD k 0)]=al++(l.take (k+1)).map acP:=by
 rw[j4 h,iI,ie];simp[List.getD,ig h]
theorem qkU {w:World}{b:Nat}{l:List Int}(h:Rd w (some ⟨b,0,none⟩) (l.map (Value.int .i32)))(k:Nat)(hk:k<l.length):w.cell? ⟨b,0+(k:Int).toNat*1,none⟩=some (.int .i32 (l.getD k 0)):=by
 rw[il,iN];refine qcg h k _ ?_;rw[iM,ig hk];simp[List.getD,ig hk]
def qbe (u:US):List Int:=List.replicate u.n.toNat 65533
def qT (p:PS)(c:Int):PS×List Ac:=
 if c<128 then
  (if c=27 then(atP 1,(qbe p.utf).map acP)
  else if c<32\/c=127 then({p with utf:=u0},(qbe p.utf).map acP++[acX c])
  else({p with utf:=(qdg u0 c).1},(qbe p.utf).map acP++(qdg u0 c).2.map acP))
 else({p with utf:=(qdg p.utf c).1},(qdg p.utf c).2.map acP)
def qaV (p:PS)(c:Int):PS×List Ac:=
 if p.state=0 then qT p c
 else if 5<=p.state then qS p c
 else if c=24\/c=26 then(atP 0,[])
 else if c=27 then(atP 1,[])
 else if c<32 then(p,[acX c])
 else if 127<=c then(p,[])
 else if p.state=3\/p.state=4 then qbE p c
 else qs p c
def qbn (p:PS)(c:Int):PS×List Ac:=
 if p.state=7 then(if c=92 then qz p p.within else qaV (atP 1) c)else qaV p c
structure PS.lim (p:PS):Prop where
 u:p.utf.ok
 m:p.marks.size<=2
 t:p.text.size<=40
 n:p.params.length<=8
 b:∀x∈p.params,0<=x/\x<=9999
theorem zv {w:World}{e:TypeId}{sz n cap b:Nat}{o:Option Nat}{xs:List Value}(h:Own w e sz o n cap xs)(hb:b=w.heap.size:=by assumption):∀b',o=some b'-> ¬b'=b:=fun b' e=>by have:=h.ltOf e;omega
theorem qoP (d:US)(w:World)(hn:0<=d.n/\d.n<=3):CP 156 [.agg #[uX d.b0,uX d.b1,uX d.b2,iX d.n]].toArray w fun e w'=> ∃o n cc,e= .returned (.tuple #[.agg #[uX 0,uX 0,uX 0,iX 0],.slice (o.map at0) n cc])/\Own w' qna 1 o n cc ((qbe d).map (Value.int .i32))/\(∀b,o=some b->w.heap.size<=b)/\Ch (fun _=>False) w w':=by
 refine yA Tryz.func156 rfl<|ysr<|yo (yN [uX d.b0,uX d.b1,uX d.b2,iX d.n] 92 fun a2 F G a3 H I=>?_);have a4:=zn G (zm w);have r:=zu (zm w) I iZ;refine yo (yN [uX 0,uX 0,uX 0,iX 0] 92 fun f g J a5 s t=>?_);have a6:=zn J r;have v:=zu r t iZ;have x:=H.ch t id;refine yz 3<|yx 1<|ys<|ysr<|yp 3 [] (.l (x.c 3) .z)<|ye<|qa<|qV [2,4,6,7] (f':=[(2,pX g),(4,nX),(6,iX d.n),(7,iX 0)])<|qw (σ:=Nat×Option Nat×Nat) (fun⟨k,o,oc⟩=>[(2,pX g),(4,.slice (o.map at0) k oc),(6,iX d.n),(7,iX (k:Int))]) (fun⟨k,o,oc⟩ u=>k<=d.n.toNat/\Ch (fun _=>False) f u/\Own u qna 1 o k oc ((List.replicate k 65533).map (Value.int .i32))/\ ∀b,o=some b->f.heap.size<=b) (fun⟨k,o,oc⟩=>d.n.toNat-k) (0,none,0) rfl ?_ ?_
 ·exact⟨ir _,Ch.refl _ _,Own.nil _ _ _,fun b e=>by cases e⟩
 intro p a7 K a8 L;obtain⟨k,o,oc⟩:=p;obtain⟨hk,j,hO,m⟩:=K;have a9:F<f.heap.size:=x.lt;have M:g<f.heap.size:=s.lt;have y:=zu v j iZ;have N:=s.ch j id;refine yx 1<|ys<|yc (rL (k:Int) d.n) (fun O=>?_) fun O=>?_
 ·refine yk<|ys<|qa<|q7<|yq 1<|yo (yB [rX 65533] 21 1 fun aa q A ab P B=>?_);have ac:=zv (b:=q) hO;have ad:=zn A y;have ae:f.heap.size<=q:=by rw[A];exact zzs j
  have C:=zt j B eZ;have Q:=hO.ch B iZ;refine yo (qaE 21 1 4 o k oc ((List.replicate k 65533).map (Value.int .i32)) (some ⟨q,0,none⟩) 1 1 [rX 65533] (some 11) (k+1) rfl ((List.replicate (k+1) 65533).map (Value.int .i32)) (by rw[jL,iI];rfl) (by kernel_rfl) Q (Rd.all P) rfl rfl (fun h=>by cases h) (by constructor<;>first|omega|(simp only[maxLen];omega)) ?_);intro af D R S T ag U;have V:∀b,D=some b->f.heap.size<=b:=fun b e=>by
   rcases T with h|⟨g',h,h'⟩
   ·exact m b (h▸e)
   rw[h]at e;have:=zi e;have:=zzs C;omega
  have W:=zt C U (fun i hi h=>by have:=m _ h;omega);refine yq 4<|yE (nB (nS ?_));refine q7<|yp 2 [] (.q6 ((k:Int)+1) .z)<|yE (fun a ha=>L (k+1,D,R) _ ⟨by omega,W,S,V⟩ (by show d.n.toNat-(k+1)<d.n.toNat-k;omega) a (ha.kp [2,4,6,7]))
 have X:k=d.n.toNat:=by omega
 refine qm (eS (qd (qb (nS ?_))));refine ysr<|yq 2<|yo (yT [uX 0,uX 0,uX 0,iX 0] N fun ah Y E=>?_);have Z:=zu y E (fun i hi (h:i=g)=>by omega);have a0:=hO.ch E (fun b e (h:b=g)=>by have:=m b e;have:=M;omega);refine yz 4<|q9 (yR2 [.agg #[uX 0,uX 0,uX 0,iX 0],.slice (o.map at0) k oc] (.a (Y.cs 0 4) .z) ?_);subst X;have a1:=zzs v;exact⟨_,_,_,rfl,a0,(fun b e=>iq a1 (m b e)),Up.ch Z⟩
theorem qjF {q:Option Nat}{qn qc:Nat}{al:List Ac}(rb rc:Nat)(rl:List Int)(w:World)(hq:Own w qo0 6 q qn qc (qcp al))(hr:Rd w (some ⟨rb,0,none⟩) (rl.map (Value.int .i32)))(hrb:rb<w.heap.size)(hqr:∀b,b=rb-> ¬q=some b)(hb:qn<=1000/\rl.length<=1000):CP 157 [.slice (q.map at0) qn qc,.slice (some ⟨rb,0,none⟩) rl.length rc].toArray w fun e w'=> ∃o n c,e= .returned (.slice (o.map at0) n c)/\Own w' qo0 6 o n c (qcp (al++rl.map acP))/\(∀b,o=some b->q=some b\/w.heap.size<=b)/\Ch (fun b=>q=some b) w w':=by
 refine yA Tryz.func157 rfl<|yx 1<|ys<|yx 3<|qa<|qV [0,7,8,9] (f':=[(0,.slice (q.map at0) qn qc),(7,.slice (some ⟨rb,0,none⟩) rl.length rc),(8,iX (rl.length:Int)),(9,iX 0)])<|qw (σ:=Nat×Option Nat×Nat) (fun⟨k,o,oc⟩=>[(0,.slice (o.map at0) (qn+k) oc),(7,.slice (some ⟨rb,0,none⟩) rl.length rc),(8,iX (rl.length:Int)),(9,iX (k:Int))]) (fun⟨k,o,oc⟩ u=>k<=rl.length/\Own u qo0 6 o (qn+k) oc (qcp (al++(rl.take k).map acP))/\(∀b,o=some b->q=some b\/w.heap.size<=b)/\Rd u (some ⟨rb,0,none⟩) (rl.map (Value.int .i32))/\Ch (fun b=>q=some b) w u) (fun⟨k,o,oc⟩=>rl.length-k) (0,q,qc) rfl ?_ ?_
 ·exact⟨ir _,by simpa using hq,fun b e=> .inl e,hr,(Ch.refl (fun b=>q=some b) w)⟩
 intro p M v N x;obtain⟨k,o,oc⟩:=p;obtain⟨hk,hO,d,j,f⟩:=v;refine yx 1<|ys<|yc (rL (k:Int) (rl.length:Int)) (fun y=>?_) fun y=>?_
 ·refine yk<|ys<|qa<|ysr<|yp 3 [] (.i (k:Int) (rl.length) (.l (o:=(0+((k:Int)).toNat*1)) (qkU j k (by omega)) .z))<|ye<|q7<|yq 3<|yo (yB [iX 0,rX (rl.getD k 0),uX 0,oX,nX,oX] 190 1 fun O A B P C g=>?_);have Q:=zn B f;have m:=zt f g eZ;have D:=hO.ch g iZ;have E:=Ch.rd g j id;refine yo (qaE 190 6 72 o (qn+k) oc (qcp (al++(rl.take k).map acP)) (some ⟨A,0,none⟩) 1 1 [iX 0,rX (rl.getD k 0),uX 0,oX,nX,oX] (some 17) (qn+(k+1)) (by omega) (qcp (al++(rl.take (k+1)).map acP)) ((qfr _ (acP (rl.getD k 0))).trans (by rw[take_acP rl k (by omega)])) (by kernel_rfl) D (Rd.all C) rfl rfl (fun h=>by cases h) (by constructor<;>first|omega|(simp only[maxLen];omega)) ?_);intro R r F G H S s;have I:∀b,r=some b->q=some b\/w.heap.size<=b:=fun b e=>by
   rcases H with h|⟨g',h,h'⟩
   ·exact d b (h▸e)
   rw[h]at e;have:=zi e;have:=zzs m;exact .inr (by omega)
  have J:=zt m s (fun i hi h=>(d i h).elim id (fun h=>by omega));have K:=Ch.rd s E (fun h=>(d _ h).elim (fun h=>hqr _ rfl h) (fun h=>by omega));refine yq 6<|yE (nB (nS ?_));refine q7<|yp 2 [] (.q6 ((k:Int)+1) .z)<|yE (fun a ha=>x (k+1,r,F) _ ⟨by omega,G,I,K,J⟩ (by show rl.length-(k+1)<rl.length-k;omega) a (ha.kp [0,7,8,9]))
 have L:k=rl.length:=by omega
 refine qm (eS (qd (qb (nS ?_))));refine yx 2<|q9 (yR1 (.slice (o.map at0) (qn+k) oc) ?_);subst L;have t:=hO;rw[jc]at t;exact⟨_,_,_,rfl,t,d,f⟩
theorem qjG {q:Option Nat}{qn qc:Nat}{al:List Ac}(w:World)(rc:Nat)(hq:Own w qo0 6 q qn qc (qcp al)):CP 157 [.slice (q.map at0) qn qc,.slice none 0 rc].toArray w fun e w'=> ∃o n c,e= .returned (.slice (o.map at0) n c)/\Own w' qo0 6 o n c (qcp al)/\(∀b,o=some b->q=some b\/w.heap.size<=b)/\Ch (fun b=>q=some b) w w':=by
 refine yA Tryz.func157 rfl<|yx 1<|ys<|yx 3<|qa<|qV [0,7,8,9] (f':=[(0,.slice (q.map at0) qn qc),(7,.slice none 0 rc),(8,iX 0),(9,iX 0)])<|qw (σ:=Nat) (fun k=>[(0,.slice (q.map at0) qn qc),(7,.slice none 0 rc),(8,iX 0),(9,iX (k:Int))]) (fun k u=>Own u qo0 6 q qn qc (qcp al)/\Ch (fun b=>q=some b) w u) (fun k=>k) 0 rfl ?_ ?_
 ·exact⟨hq,(Ch.refl (fun b=>q=some b) w)⟩
 intro k g a h i;obtain⟨hO,d⟩:=a;refine yx 1<|ys<|yc (rL (k:Int) 0) (fun f=>?_) fun f=>?_
 ·exfalso;omega
 refine qm (eS (qd (qb (nS ?_))));refine yx 2<|q9 (yR1 (.slice (q.map at0) qn qc) ?_);exact⟨q,qn,qc,rfl,hO,fun b e=> .inl e,d⟩
theorem qec {q:Option Nat}{qn qc:Nat}{al:List Ac}{ro:Option Nat}{rn rc:Nat}{rl:List Int}(w:World)(hq:Own w qo0 6 q qn qc (qcp al))(hr:Own w qna 1 ro rn rc (rl.map (Value.int .i32)))(hqr:∀b,ro=some b-> ¬q=some b)(hb:qn<=1000/\rn<=1000):CP 157 [.slice (q.map at0) qn qc,.slice (ro.map at0) rn rc].toArray w fun e w'=> ∃o n c,e= .returned (.slice (o.map at0) n c)/\Own w' qo0 6 o n c (qcp (al++rl.map acP))/\(∀b,o=some b->q=some b\/w.heap.size<=b)/\Ch (fun b=>q=some b) w w':=by
 have hn:=hr.1;rw[hZ,iN]at hn;cases ro with
 |none=>
  obtain⟨rfl,rfl⟩:=hr.2.2.2.1 rfl;obtain rfl:rl=[]:=iy hn;simpa using qjG w 0 hq
 |some rb=>
  subst hn;exact qjF rb rc rl w hq hr.rd hr.lt (fun b e=>e▸hqr rb rfl) hb
theorem qfL {w:World}{ad:Addr}{l:List Int}{k:IntKind}(h:Rd w (some ad) (l.map (Value.int k)))(n:Nat):Rd w (some ad) ((l.take n).map (Value.int k)):=
  ⟨(fun e=>by cases e),fun ad' e j u hj=>h.2 ad' e j u (by
    rw[k4,j5]at hj
    split at hj
    · exact hj
    · cases hj)⟩
theorem qoQ (d:US)(c:Int)(w:World)(hU:qcD w)(hd:d.ok)(hc:0<=c/\c<=255):CP 158 [.agg #[uX d.b0,uX d.b1,uX d.b2,iX d.n],uX c].toArray w fun e w'=> ∃o n cc,e= .returned (.tuple #[.agg #[uX (qdg d c).1.b0,uX (qdg d c).1.b1,uX (qdg d c).1.b2,iX (qdg d c).1.n],.slice (o.map at0) n cc])/\Own w' qna 1 o n cc (((qdg d c).2).map (Value.int .i32))/\(∀b,o=some b->w.heap.size<=b)/\Ch (fun _=>False) w w':=by
 have c4:=hd.n;have c5:(d.pend++[c]).length=d.n.toNat+1:=by rw[hJ,hd.len];rfl
 have ag:∀x∈d.pend++[c],0<=x/\x<=255:=fun x hx=>(iD.1 hx).elim (hd.pend x) (fun h=>by simp at h;omega);refine yA Tryz.func158 rfl<|ysr<|yo (yN [uX d.b0,uX d.b1,uX d.b2,iX d.n] 92 fun c6 H aE c7 aF ah=>?_);have c8:=zn aE (zm w);have ai:=zu (zm w) ah iZ;have aG:=qaf ah hU id id;refine yo (yN [uX 0,uX 0,uX 0,iX 0] 92 fun c9 f aH ca aj T=>?_);have cb:=zn aH ai;have ak:=zu ai T iZ;have aI:=qaf T aG id id;have I:=aF.ch T id;refine yz 3<|ysr<|yp 4 [] (.l (I.c 3) (.j d.n (3) .z)) ?_;refine yo (qaE 5 1 1 none 0 0 [] (some ⟨H,0,none⟩) (d.n:Int).toNat 3 (d.pend.map (Value.int .u8)) (some 15) d.n.toNat (iJ _) (d.pend.map (Value.int .u8)) rfl (by kernel_rfl) (Own.nil _ _ _) (hd.rd I) (by rw[hZ,hd.len,iN]) (qN _) (fun h=>by cases h) (by constructor<;>first|omega|(simp only[maxLen];omega)) ?_);intro cd J aJ aK U ce y;replace y:=qM y;have al:¬J=some H:=fun e=>by
  rcases U with h|⟨g',h,h'⟩
  ·rw[h]at e;cases e
  rw[h]at e;have:=zi e;have:=I.lt;omega
 have am:¬J=some f:=fun e=>by
  rcases U with h|⟨g',h,h'⟩
  ·rw[h]at e;cases e
  rw[h]at e;have:=zi e;have:=aj.lt;omega
 have K:∀b,J=some b->w.heap.size<=b:=fun b e=>by
  rcases U with h|⟨g',h,h'⟩
  ·rw[h]at e;cases e
  rw[h]at e;have:=zi e;have:=zzs ak;omega
 have an:=zu ak y iZ;have aL:=qaf y aI id id;have aM:=I.ch y id;have aN:=aj.ch y id;refine yq 6<|yo (yB [uX c] 5 1 fun cf aO aP cg aQ A=>?_);have ci:=zn aP an;have ao:=zu an A iZ;have aR:=qaf A aL id id;have ap:=aM.ch A id;have aq:=aN.ch A id;have aS:=aK.ch A iZ;refine yo (qaE 5 1 1 J d.n.toNat aJ (d.pend.map (Value.int .u8)) (some ⟨aO,0,none⟩) 1 1 [uX c] (some 18) (d.n.toNat+1) rfl ((d.pend++[c]).map (Value.int .u8)) (by rw[iI];rfl) (by kernel_rfl) aS (Rd.all aQ) rfl rfl (fun h=>by cases h) (by constructor<;>first|omega|(simp only[maxLen];omega)) ?_);intro s aT V W X aU L;obtain⟨g,rfl⟩:∃b,aT=some b:=aU (by omega);have cj:Df H g:=qbs X (fun h=>al h) ap.lt;have ck:Df f g:=qbs X (fun h=>am h) aq.lt;have cl:w.heap.size<=g:=by
  rcases X with h|⟨g',h,h'⟩
  ·exact K _ h.symm
  have:=zi h;have:=zzs ao;omega
 have Y:=zu ao L (fun i hi h=>by have:=K _ h;omega);have aV:=qaf L aR (fun h=>by have:=K _ h;have:=qiu hU;omega) (fun h=>by have:=K _ h;have:=qiu hU;omega);have aW:=ap.ch L al;have ar:=aq.ch L am;refine yz 9<|yx 1<|ys<|qa<|qV [4,6,7] (f':=[(4,pX f),(6,.slice (some ⟨g,0,none⟩) (d.n.toNat+1) V),(7,nX)])<|qw (σ:=Nat×Option Nat×Nat×Nat×Nat) (fun⟨k,o,oc,m,cp⟩=>[(4,pX f),(6,.slice (some ⟨g,m,none⟩) (itU (d.pend++[c]) k).2.length cp),(7,.slice (o.map at0) k oc)]) (fun⟨k,o,oc,m,cp⟩ u=>(itU (d.pend++[c]) k).1.length=k/\(itU (d.pend++[c]) k).2.length<=cp/\Rd u (some ⟨g,m,none⟩) ((itU (d.pend++[c]) k).2.map (Value.int .u8))/\Ch (fun _=>False) s u/\Own u qna 1 o k oc ((itU (d.pend++[c]) k).1.map (Value.int .i32))/\ ∀b,o=some b->s.heap.size<=b) (fun⟨k,o,oc,m,cp⟩=>d.n.toNat+1-k) (0,none,0,0,V) (by show _=_;simp only[itU,hJ,hd.len];rfl) ?_ ?_
 ·exact⟨rfl,by show(d.pend++[c]).length<=V;have:=W.2.1;rw[hJ,hd.len];exact this,W.rd,Ch.refl _ _,Own.nil _ _ _,fun b e=>by cases e⟩
 intro p cm aX cn aY;obtain⟨k,o,oc,m,cp⟩:=p;obtain⟨aZ,b3,Z,B,hO,t⟩:=aX;have co:=itU_len ag k;have a0:=qdq ag k;have cq:H<s.heap.size:=aW.lt;have au:f<s.heap.size:=ar.lt;have av:g<s.heap.size:=W.lt;have a1:=zu Y B iZ;have aw:=qaf B aV id id;have M:=ar.ch B id;have a2:=ic av (zzs B);refine ys<|ysr<|yq 4<|yw [22] (rL 0 (((itU (d.pend++[c]) k).2.length:Nat):Int)) (fun b4=>?_) fun b4=>?_
 ·refine yq 5<|yo (yQ (qcw g m cp (itU (d.pend++[c]) k).2 aw Z a2 a0 (by omega)) fun cr v=>?_);have a3:=zu a1 v iZ;have b5:=zt B v eZ;have b6:=qaf v aw id id;have a4:=M.ch v id;have a5:=Ch.rd v Z id;have a6:=ic a2 (zzs v);have a7:=hO.ch v iZ;refine yz 7<|yc (rY (qbT (itU (d.pend++[c]) k).2)) (fun N=>?_) fun N=>?_
  ·have b7:=N;refine yk<|qa<|ysr<|yq 1<|yo (yQ (qkT g m cp (itU (d.pend++[c]) k).2 b6 a5 a6 a0 (by omega)) fun ct C=>?_);have b8:=zu a3 C iZ;have b9:=zt b5 C eZ;have ba:=Ch.rd C a5 id;have bb:=ic a6 (zzs C);have bc:=a7.ch C iZ;have cu:=qkS a0 (by omega);refine yz 7<|yD [2,3] fun cv cw D=>?_;have bd:=zu b8 D iZ;have ax:=zt b9 D eZ;have bf:=Ch.rd D ba id;have bg:=ic bb (zzs D);have ay:=bc.ch D iZ;refine ydT [0,1,4,5,6] [] rfl (fun _=>(.j (qiv (itU (d.pend++[c]) k).2).2 ((itU (d.pend++[c]) k).2.length) .z))<|yK 2 (yB [rX (qiv (itU (d.pend++[c]) k).2).1] 21 1 fun cx a8 az cy bh O=>?_);have cz:=zv (b:=a8) ay;have cA:=zn az bd;have cB:s.heap.size<=a8:=by rw[az];exact zzs ax
   have aA:=zt ax O eZ;have bi:=Ch.rd O bf id;have bj:=ic bg (zzs O);have bk:=ay.ch O iZ;refine q8 ?_;refine yK 3 (qaE 21 1 4 o k oc ((itU (d.pend++[c]) k).1.map (Value.int .i32)) (some ⟨a8,0,none⟩) 1 1 [rX (qiv (itU (d.pend++[c]) k).2).1] (some 34) (k+1) rfl (((itU (d.pend++[c]) k).1++[(qiv (itU (d.pend++[c]) k).2).1]).map (Value.int .i32)) (by rw[iI];rfl) (by kernel_rfl) bk (Rd.all bh) rfl rfl (fun h=>by cases h) (by constructor<;>first|omega|(simp only[maxLen];omega)) ?_);intro cC aB bl bm bn cD a9;have bo:∀b,aB=some b->s.heap.size<=b:=fun b e=>by
    rcases bn with h|⟨g',h,h'⟩
    ·exact t b (h▸e)
    rw[h]at e;have:=zi e;have:=zzs aA;omega
   have bp:=zt aA a9 (fun i hi h=>by have:=t _ h;omega);have bq:=Ch.rd a9 bi (fun h=>by have:=t _ h;have:=av;omega);have cE:=ic bj (zzs a9);refine q8<|yd [7,8] [] .z<|yDe (nB (fun a ha=>aY (k+1,aB,bl,(if cp=((qiv (itU (d.pend++[c]) k).2).2:Int).toNat then m else m+((qiv (itU (d.pend++[c]) k).2).2:Int).toNat*1),(cp-((qiv (itU (d.pend++[c]) k).2).2:Int).toNat)) _ ⟨by rw[(qhG (l:=(d.pend++[c])) (k:=k) (by omega) (by assumption)),hJ,aZ];rfl,(by rw[(qhG (l:=(d.pend++[c])) (k:=k) (by omega) (by assumption)),iG];omega),(by rw[(qhG (l:=(d.pend++[c])) (k:=k) (by omega) (by assumption)),List.map_drop];exact qoN bq (by rw[hZ];exact b3)),bp,(by rw[(qhG (l:=(d.pend++[c])) (k:=k) (by omega) (by assumption))];exact bm),bo⟩ (by show d.n.toNat+1-(k+1)<d.n.toNat+1-k;omega) a (by simp only[(qhG (l:=(d.pend++[c])) (k:=k) (by omega) (by assumption)),iG];exact ha.kp [4,6,7])))
  have E:=qiw (l:=(d.pend++[c])) (k:=k) (fun hx=>absurd (hx.2.symm.trans N) (by decide)) (4-k);have b7:=N;refine qm (eS (qd (qb (nS ?_))));refine ysr<|yo (yN [uX 0,uX 0,uX 0,iX 0] 92 fun cF q br cG bs F=>?_);have aC:=zv (b:=q) a7;have cH:=zn br a3;have bt:=zu a3 F iZ;have bu:=a4.ch F id;have bv:=Ch.rd F a5 id;have bw:=ic a6 (zzs F);have bx:=a7.ch F iZ;refine ye<|ysr<|yq 3 ?_;have aa:((itU (d.pend++[c]) k).2.take 3).length<=3:=by rw[im];omega
  refine yo (qdm 1 q 0 3 3 (some ⟨g,m,none⟩) (itU (d.pend++[c]) k).2.length cp (((itU (d.pend++[c]) k).2.take 3).map (Value.int .u8)) (some 41) ((itU (d.pend++[c]) k).2.take 3).length (by rw[im];omega) (by kernel_rfl) bs (qfL bv 3) (by rw[hZ,iN]) (qN _) (by rw[hZ];simp only[iz,iP];omega) ?_);intro cI ab P;have bz:=zu bt P (fun i hi (h:i=q)=>by omega);have bA:=bu.ch P (fun(h:f=q)=>by have:=a4.lt;omega);have bB:=ic bw (zzs P);have bC:=bx.ch P (fun b e (h:b=q)=>aC b e h);replace ab:=qjE aa rfl ab;refine yq 5<|yo (yT [uX (mkU ((itU (d.pend++[c]) k).2.take 3)).b0,uX (mkU ((itU (d.pend++[c]) k).2.take 3)).b1,uX (mkU ((itU (d.pend++[c]) k).2.take 3)).b2,iX ((((itU (d.pend++[c]) k).2.take 3).length:Nat):Int)] ab fun cJ bD Q=>?_);have bE:=zu bz Q (fun i hi (h:i=q)=>by omega);have bF:=bA.ch Q (fun(h:f=q)=>by have:=a4.lt;omega);have bG:=ic bB (zzs Q);have bH:=bC.ch Q (fun b e (h:b=q)=>aC b e h);refine ye<|ysr<|yp 2 [] (.a (bD.cs 0 4) .z)<|yo (yT [uX (mkU ((itU (d.pend++[c]) k).2.take 3)).b0,uX (mkU ((itU (d.pend++[c]) k).2.take 3)).b1,uX (mkU ((itU (d.pend++[c]) k).2.take 3)).b2,iX ((((itU (d.pend++[c]) k).2.take 3).length:Nat):Int)] bF fun cK bI ac=>?_);have bJ:=zu bE ac (fun i hi (h:i=f)=>by omega);have cL:=ic bG (zzs ac)
  have bK:=bH.ch ac (fun b e (h:b=f)=>by have:=t b e;have:=au;omega);refine yz 4<|q9 (yR2 [.agg #[uX (mkU ((itU (d.pend++[c]) k).2.take 3)).b0,uX (mkU ((itU (d.pend++[c]) k).2.take 3)).b1,uX (mkU ((itU (d.pend++[c]) k).2.take 3)).b2,iX ((((itU (d.pend++[c]) k).2.take 3).length:Nat):Int)],.slice (o.map at0) k oc] (.a (bI.cs 0 4) .z) ?_);rw[show k+(4-k)=4 by omega]at E;unfold qdg;rw[E];have ad:=zzs Y;exact⟨_,_,_,rfl,bK,(fun b e=>iq ad (t b e)),Up.ch bJ⟩
 have E:=qiw (l:=(d.pend++[c])) (k:=k) (fun hx=>by omega) (4-k);refine yz 7<|ycf<|qm (eS (qd (qb (nS ?_))));refine ysr<|yo (yN [uX 0,uX 0,uX 0,iX 0] 92 fun cM r bL cN bM G=>?_);have aD:=zv (b:=r) hO;have cO:=zn bL a1;have bN:=zu a1 G iZ;have bO:=M.ch G id;have bP:=Ch.rd G Z id;have bQ:=ic a2 (zzs G);have bR:=hO.ch G iZ;refine ye<|ysr<|yq 3 ?_;have aa:((itU (d.pend++[c]) k).2.take 3).length<=3:=by rw[im];omega
 refine yo (qdm 1 r 0 3 3 (some ⟨g,m,none⟩) (itU (d.pend++[c]) k).2.length cp (((itU (d.pend++[c]) k).2.take 3).map (Value.int .u8)) (some 41) ((itU (d.pend++[c]) k).2.take 3).length (by rw[im];omega) (by kernel_rfl) bM (qfL bP 3) (by rw[hZ,iN]) (qN _) (by rw[hZ];simp only[iz,iP];omega) ?_);intro cP ae R;have bS:=zu bN R (fun i hi (h:i=r)=>by omega);have bT:=bO.ch R (fun(h:f=r)=>by have:=M.lt;omega);have bU:=ic bQ (zzs R);have bV:=bR.ch R (fun b e (h:b=r)=>aD b e h);replace ae:=qjE aa rfl ae;refine yq 5<|yo (yT [uX (mkU ((itU (d.pend++[c]) k).2.take 3)).b0,uX (mkU ((itU (d.pend++[c]) k).2.take 3)).b1,uX (mkU ((itU (d.pend++[c]) k).2.take 3)).b2,iX ((((itU (d.pend++[c]) k).2.take 3).length:Nat):Int)] ae fun cQ bW S=>?_);have bX:=zu bS S (fun i hi (h:i=r)=>by omega);have bY:=bT.ch S (fun(h:f=r)=>by have:=M.lt;omega);have bZ:=ic bU (zzs S);have c0:=bV.ch S (fun b e (h:b=r)=>aD b e h);refine ye<|ysr<|yp 2 [] (.a (bW.cs 0 4) .z)<|yo (yT [uX (mkU ((itU (d.pend++[c]) k).2.take 3)).b0,uX (mkU ((itU (d.pend++[c]) k).2.take 3)).b1,uX (mkU ((itU (d.pend++[c]) k).2.take 3)).b2,iX ((((itU (d.pend++[c]) k).2.take 3).length:Nat):Int)] bY fun cR c1 af=>?_);have c2:=zu bX af (fun i hi (h:i=f)=>by omega);have cS:=ic bZ (zzs af)
 have c3:=c0.ch af (fun b e (h:b=f)=>by have:=t b e;have:=au;omega);refine yz 4<|q9 (yR2 [.agg #[uX (mkU ((itU (d.pend++[c]) k).2.take 3)).b0,uX (mkU ((itU (d.pend++[c]) k).2.take 3)).b1,uX (mkU ((itU (d.pend++[c]) k).2.take 3)).b2,iX ((((itU (d.pend++[c]) k).2.take 3).length:Nat):Int)],.slice (o.map at0) k oc] (.a (c1.cs 0 4) .z) ?_);rw[show k+(4-k)=4 by omega]at E;unfold qdg;rw[E];have ad:=zzs Y;exact⟨_,_,_,rfl,c3,(fun b e=>iq ad (t b e)),Up.ch c2⟩
theorem qkV:u0.ok:=⟨by decide,by decide,by decide,by decide⟩
theorem qhH {X:US×List Int}{d:US}{c:Int}(hX:qdg d c=X)(d':US)(c':Int)(w:World)(hU:qcD w)(hd:d.ok)(hc:0<=c/\c<=255):CP 158 [.agg #[uX d.b0,uX d.b1,uX d.b2,iX d.n],uX c].toArray w fun e w'=> ∃o n cc,e= .returned (.tuple #[.agg #[uX X.1.b0,uX X.1.b1,uX X.1.b2,iX X.1.n],.slice (o.map at0) n cc])/\Own w' qna 1 o n cc ((X.2).map (Value.int .i32))/\(∀b,o=some b->w.heap.size<=b)/\Ch (fun _=>False) w w':=by
 subst hX;exact qoQ d c w hU hd hc
theorem qeL {d:US}(h:d.ok)(c:Int):(qdg d c).2.length<=4:=by
 have:∀(l:List Int) k,(itU l k).1.length<=k:=fun l k=>by
  induction k with
  |zero=>simp[itU]
  |succ k ih=>
   unfold itU;split
   ·simp only[hJ,iz,iP];omega
   omega
 exact this _ 4
theorem qne {w:World}{po:Option Nat}{pn pc:Nat}{p:PS}(hP:IntsAt w .i64 po pn pc p.params (fun b=>po=some b))(c:Int)(hcB:0<=c/\c<=255)(hU:qcD w)(hp:p.lim):CP 123 [.agg (PS.vals p (.slice (po.map at0) pn pc)).toArray,uX c].toArray w fun e w'=>Fed w w' e po (qT p c).1 (qT p c).2:=by
 refine yA Tryz.func123 rfl<|ysr<|yo (yN (PS.vals p (.slice (po.map at0) pn pc)) 94 fun d5 f bl d6 a0 ac=>?_);have I:=zn bl (zm w);have av:=zu (zm w) ac iZ;have bm:=hP.ch ac iZ;have bn:=qaf ac hU id id;refine yo (yN [iX 0,uX 0,uX 0,uX 0,iX 0,oX,nX,oX,iX 0] 94 fun a1 d bo d7 a2 a3=>?_);have a4:=zn bo av;have aw:=zu av a3 iZ;have ax:=bm.ch a3 iZ;have ay:=qaf a3 bn id id;have B:=a0.ch a3 id;refine yz 3<|yx 1<|yx 1<|ys<|yx 2<|yc (rL c 128) (fun C=>?_) fun C=>?_
 ·refine ysr<|yp 2 [] (.a (B.cs 1 4) .z) ?_;have bp:f<a1.heap.size:=B.lt;have d8:d<a1.heap.size:=a2.lt;refine yo (yC (qoP p.utf _ hp.u.n) ?_);rintro _ d9 ⟨da,db,dc,rfl,bq,br,J⟩;refine⟨_,rfl,?_⟩;have bs:=zu aw J iZ;have bt:=ax.ch J iZ;have bu:=qaf J ay id id;have bv:=B.ch J id;have bw:=a2.ch J id;refine yq 7<|yo (yT [iX p.state,uX 0,uX 0,uX 0,iX 0,.string p.marks,.slice (po.map at0) pn pc,.string p.text,iX p.within] bv fun az aA K=>?_);have aB:=zu bs K (fun i hi (h:i=f)=>by omega);have bx:=bt.ch K (fun b hb (e:b=f)=>by have:=(hP.2.2.2 b hb).2;have:=I;omega);have bz:=qaf K bu (fun(h:qfK=f)=>by have:=qiu hU;have:=I;omega) (fun(h:gAcc=f)=>by have:=qiu hU;have:=I;omega);have aC:=bw.ch K (fun(h:d=f)=>by have:=a0.lt;omega);have aD:=bq.ch K (fun b e (h:b=f)=>by have:=br b e;have:=bp;omega);refine yz 9<|q7<|yq 2 ?_;have bA:d<az.heap.size:=aC.lt;have bB:f<az.heap.size:=aA.lt;have bC:=aD.1;rw[hZ,iN]at bC;have dd:(qbe p.utf).length<=3:=by unfold qbe;rw[iu];have:=hp.u.n;omega
  refine yo (yC (qec (q:=none) (al:=[]) _ (Own.nil _ _ _) aD (fun b e h=>by cases h) (by constructor<;>omega)) ?_);rintro _ ad ⟨o,r,a5,rfl,L,ae,v⟩;refine⟨_,rfl,?_⟩;replace v:=qM v;have s:∀b,o=some b->w.heap.size<=b:=fun b e=>(ae b e).elim (fun h=>by cases h) (fun h=>by have:=zzs aB;omega);have a6:=zu aB v iZ;have af:=bx.ch v iZ;have bD:=qaf v bz id id;have M:=aC.ch v id;have N:=aA.ch v id;have x:∀b',o=some b'-> ¬b'=d:=fun b' e h=>(ae b' e).elim (fun j=>by cases j) (fun j=>by have:=bA;omega);have y:∀b',o=some b'-> ¬b'=f:=fun b' e h=>(ae b' e).elim (fun j=>by cases j) (fun j=>by have:=bB;omega);refine yz 4<|ys<|qa<|yx 3<|yc (rE c 27) (fun t=>?_) fun t=>?_
  ·refine ysr<|yo (yQ (qaw 1 _) fun de ag=>?_);have bE:=zu a6 ag iZ;have bF:=M.ch ag id;have bG:=L.ch ag iZ;refine yq 2<|yo (yT [iX 1,uX 0,uX 0,uX 0,iX 0,oX,nX,oX,iX 0] bF fun df bH aE=>?_);have bI:=zu bE aE (fun i hi (h:i=d)=>by omega);have aF:=bG.ch aE (fun b e (h:b=d)=>x b e h);refine yz 4<|q9 (rB (rS (yR2 [.agg #[iX 1,uX 0,uX 0,uX 0,iX 0,oX,nX,oX,iX 0],.slice (o.map at0) r a5] (.a (bH.cs 0 9) .z) ?_)));refine Fed.mk' (p':=(PS.mk 1 ⟨0,0,0,0⟩ ByteArray.empty [] ByteArray.empty 0)) (l:=([]++(qbe p.utf).map acP)) none 0 0 o r a5 (.inr (fun b h=>by cases h)) rfl (IntsAt.nil _ _ _) (qcj aF ?_ fun b e=>⟨s b e,aF.ltOf e⟩) (Up.ch bI) ?_
   ·simp only[iD,j7,jf,false_or,iA];rintro a ⟨_,_,rfl⟩<;>rfl
   simp only[qT,atP,C,t,↓reduceIte,Int.reduceLT,Int.reduceLE,Int.reduceEq,and_true,true_and,or_true,true_or,or_false,false_or,and_self,iO,ie,u0]
  refine ysr<|yq 3<|yw [28] (rL c 32) (fun A=>?_) fun A=>?_
  ·refine yz 7<|yct<|ys<|qaI (fun b=>o=some b) [6] (by kernel_rfl) (fun dg dh O=>?_);have aG:=zu a6 O iZ;have bJ:=af.ch O iZ;have bK:=M.ch O id;have aH:=N.ch O id;have aI:=L.ch O iZ;refine ydC (uL 0 4) [] (fun u hu=>(.a (qap hu (aH.cs 0 9) (fun h=>y _ h rfl)) .z))<|yH 4 (yB [iX 1,rX 0,uX c,oX,nX,oX] 190 1 fun di aJ bL dj bM D=>?_);have dk:=zv (b:=aJ) aI;have dl:=zn bL aG;have aK:=zu aG D iZ;have bN:=bJ.ch D iZ;have aL:=bK.ch D id;have bO:=aH.ch D id;have aM:=aI.ch D iZ;refine qA D eZ ?_;have P:=aM.1;rw[qeK]at P;have aN:([]++(qbe p.utf).map acP).length<=3:=by simp only[hJ,hZ,iP];omega
   refine yH 5 (qaE 190 6 72 o r a5 (qcp ([]++(qbe p.utf).map acP)) (some ⟨aJ,0,none⟩) 1 1 [iX 1,rX 0,uX c,oX,nX,oX] (some 37) (r+1) rfl (qcp (([]++(qbe p.utf).map acP)++[acX c])) (qfr _ (acX c)) (by kernel_rfl) aM (Rd.all bM) rfl rfl (fun h=>by cases h) (by constructor<;>first|omega|(simp only[maxLen];omega)) ?_);intro dm Q aO bP ah dn a7;have bQ:∀b',Q=some b'-> ¬b'=d:=fun b' e h=>by
    rcases ah with g|⟨g',g,R⟩
    ·exact x b' (g▸e) h
    rw[g]at e;have:=zi e;have:=aL.lt;omega
   have dp:∀b',Q=some b'-> ¬b'=f:=fun b' e h=>by
    rcases ah with g|⟨g',g,R⟩
    ·exact y b' (g▸e) h
    rw[g]at e;have:=zi e;have:=bO.lt;omega
   have bR:∀b,Q=some b->w.heap.size<=b:=fun b e=>by
    rcases ah with g|⟨g',g,R⟩
    ·exact s b (g▸e)
    rw[g]at e;have:=zi e;have:=zzs aK;omega
   have bS:=zu aK a7 (fun i hi h=>by have:=s _ h;omega);have bT:=bN.ch a7 (fun b hb h=>by have:=(hP.2.2.2 b hb).2;have:=s _ h;omega);have bU:=aL.ch a7 (fun h=>x _ h rfl);refine qA a7 iZ<|yK 6 (yT [iX p.state,uX 0,uX 0,uX 0,iX 0,.string p.marks,.slice (po.map at0) pn pc,.string p.text,iX p.within] bU fun dq bV ai=>?_);have bW:=zu bS ai (fun i hi (h:i=d)=>by omega);have bX:=bT.ch ai (fun b hb (e:b=d)=>by have:=(hP.2.2.2 b hb).2;have:=a4;omega);have aP:=bP.ch ai (fun b e (h:b=d)=>bQ b e h);refine q8<|yd [7] [] .z<|yDe (nS ?_);refine q9 (rB (rS (yR2 [.agg #[iX p.state,uX 0,uX 0,uX 0,iX 0,.string p.marks,.slice (po.map at0) pn pc,.string p.text,iX p.within],.slice (Q.map at0) (r+1) aO] (.a (bV.cs 0 9) .z) ?_)));refine Fed.mk' (p':=(PS.mk p.state ⟨0,0,0,0⟩ p.marks p.params p.text p.within)) (l:=(([]++(qbe p.utf).map acP)++[acX c])) po pn pc Q (r+1) aO (.inr (fun b h=>(hP.2.2.2 b h).2)) rfl (bX.old) (qcj aP ?_ fun b e=>⟨bR b e,aP.ltOf e⟩) (Up.ch bW) ?_
   ·simp only[iD,j7,jf,false_or,iA];rintro a ((⟨_,_,rfl⟩|rfl))<;>rfl
   simp only[qT,atP,C,t,A,↓reduceIte,Int.reduceLT,Int.reduceLE,Int.reduceEq,and_true,true_and,or_true,true_or,or_false,false_or,and_self,iO,ie,u0]
  refine yz 7<|yc (rE c 127) (fun E=>?_) fun E=>?_
  ·refine ys<|qaI (fun b=>o=some b) [6] (by kernel_rfl) (fun dr ds S=>?_);have aQ:=zu a6 S iZ;have bY:=af.ch S iZ;have bZ:=M.ch S id;have aR:=N.ch S id;have aS:=L.ch S iZ;refine ydC (uL 0 4) [] (fun u hu=>(.a (qap hu (aR.cs 0 9) (fun h=>y _ h rfl)) .z))<|yH 4 (yB [iX 1,rX 0,uX c,oX,nX,oX] 190 1 fun dt aT c0 du c1 F=>?_);have dv:=zv (b:=aT) aS;have dw:=zn c0 aQ;have aU:=zu aQ F iZ;have c2:=bY.ch F iZ;have aV:=bZ.ch F id;have c3:=aR.ch F id;have aW:=aS.ch F iZ;refine qA F eZ ?_;have P:=aW.1;rw[qeK]at P;have aN:([]++(qbe p.utf).map acP).length<=3:=by simp only[hJ,hZ,iP];omega
   refine yH 5 (qaE 190 6 72 o r a5 (qcp ([]++(qbe p.utf).map acP)) (some ⟨aT,0,none⟩) 1 1 [iX 1,rX 0,uX c,oX,nX,oX] (some 37) (r+1) rfl (qcp (([]++(qbe p.utf).map acP)++[acX c])) (qfr _ (acX c)) (by kernel_rfl) aW (Rd.all c1) rfl rfl (fun h=>by cases h) (by constructor<;>first|omega|(simp only[maxLen];omega)) ?_);intro dx T aX c4 aj dy a8;have c5:∀b',T=some b'-> ¬b'=d:=fun b' e h=>by
    rcases aj with g|⟨g',g,R⟩
    ·exact x b' (g▸e) h
    rw[g]at e;have:=zi e;have:=aV.lt;omega
   have dz:∀b',T=some b'-> ¬b'=f:=fun b' e h=>by
    rcases aj with g|⟨g',g,R⟩
    ·exact y b' (g▸e) h
    rw[g]at e;have:=zi e;have:=c3.lt;omega
   have c6:∀b,T=some b->w.heap.size<=b:=fun b e=>by
    rcases aj with g|⟨g',g,R⟩
    ·exact s b (g▸e)
    rw[g]at e;have:=zi e;have:=zzs aU;omega
   have c7:=zu aU a8 (fun i hi h=>by have:=s _ h;omega);have c8:=c2.ch a8 (fun b hb h=>by have:=(hP.2.2.2 b hb).2;have:=s _ h;omega);have c9:=aV.ch a8 (fun h=>x _ h rfl);refine qA a8 iZ<|yK 6 (yT [iX p.state,uX 0,uX 0,uX 0,iX 0,.string p.marks,.slice (po.map at0) pn pc,.string p.text,iX p.within] c9 fun dA ca ak=>?_);have cb:=zu c7 ak (fun i hi (h:i=d)=>by omega);have cc:=c8.ch ak (fun b hb (e:b=d)=>by have:=(hP.2.2.2 b hb).2;have:=a4;omega);have aY:=c4.ch ak (fun b e (h:b=d)=>c5 b e h);refine q8<|yd [7] [] .z<|yDe (nS ?_);refine q9 (rB (rS (yR2 [.agg #[iX p.state,uX 0,uX 0,uX 0,iX 0,.string p.marks,.slice (po.map at0) pn pc,.string p.text,iX p.within],.slice (T.map at0) (r+1) aX] (.a (ca.cs 0 9) .z) ?_)));refine Fed.mk' (p':=(PS.mk p.state ⟨0,0,0,0⟩ p.marks p.params p.text p.within)) (l:=(([]++(qbe p.utf).map acP)++[acX c])) po pn pc T (r+1) aX (.inr (fun b h=>(hP.2.2.2 b h).2)) rfl (cc.old) (qcj aY ?_ fun b e=>⟨c6 b e,aY.ltOf e⟩) (Up.ch cb) ?_
   ·simp only[iD,j7,jf,false_or,iA];rintro a ((⟨_,_,rfl⟩|rfl))<;>rfl
   simp only[qT,atP,C,t,A,E,↓reduceIte,Int.reduceLT,Int.reduceLE,Int.reduceEq,and_true,true_and,or_true,true_or,or_false,false_or,and_self,iO,ie,u0]
  refine qo (nB (nS ?_));refine ysr<|yp 3 [] (.a (N.cs 1 4) .z) ?_;have dB:d<ad.heap.size:=M.lt;have cd:f<ad.heap.size:=N.lt;obtain⟨k,am⟩:∃X,qdg u0 c=X:=⟨_,rfl⟩
  have ce:∀b,o=some b->b<ad.heap.size:=fun b e=>L.ltOf e;refine yo (yC (qhH am u0 c _ bD qkV hcB) ?_);rintro _ dC ⟨dD,dE,dF,rfl,cf,aZ,U⟩;refine⟨_,rfl,?_⟩;have cg:=zu a6 U iZ;have ci:=af.ch U iZ;have cj:=M.ch U id;have ck:=N.ch U id;have cl:=L.ch U iZ;refine yq 8<|yo (yT [iX p.state,uX k.1.b0,uX k.1.b1,uX k.1.b2,iX k.1.n,.string p.marks,.slice (po.map at0) pn pc,.string p.text,iX p.within] ck fun dG cm V=>?_);have cn:=zu cg V (fun i hi (h:i=f)=>by omega);have co:=ci.ch V (fun b hb (e:b=f)=>by have:=(hP.2.2.2 b hb).2;have:=I;omega);have cp:=cj.ch V (fun(h:d=f)=>by have:=a0.lt;omega);have cq:=cl.ch V (fun b e (h:b=f)=>y b e h);have cr:=cf.ch V (fun b e (h:b=f)=>by have:=aZ b e;have:=cd;omega);refine yz 10<|ys<|qaI (fun b=>o=some b) [4] (by kernel_rfl) (fun b3 dH G=>?_);have b4:=zu cn G iZ;have ct:=co.ch G iZ;have b5:=cp.ch G id;have b6:=cq.ch G iZ;have b7:=cr.ch G iZ;have b8:=cm.ch G id;refine ydC (uL 0 3) [] (fun u hu=>(.a (qap hu (b8.cs 0 9) (fun h=>y _ h rfl)) .z)) ?_;have cu:d<b3.heap.size:=b5.lt;have cv:f<b3.heap.size:=b8.lt;have cw:=b7.1;rw[hZ,iN]at cw;have an:=qeL qkV c;rw[am]at an;have P:=b6.1;rw[qeK]at P;have aN:([]++(qbe p.utf).map acP).length<=3:=by simp only[hJ,hZ,iP];omega
  refine yH 3 (yC (qec (q:=o) (al:=([]++(qbe p.utf).map acP)) _ b6 b7 (fun b e h=>by have:=aZ b e;have:=ce b h;omega) (by constructor<;>omega)) ?_);rintro _ dI ⟨W,b9,ba,rfl,cx,ao,a9⟩;refine⟨_,rfl,?_⟩;have cy:∀b,W=some b->w.heap.size<=b:=fun b e=>(ao b e).elim (fun h=>s b h) (fun h=>by have:=zzs b4;omega);have cz:=zu b4 a9 (fun i hi h=>by have:=s _ h;omega);have cA:=ct.ch a9 (fun b hb h=>by have:=(hP.2.2.2 b hb).2;have:=s _ h;omega);have cB:=b5.ch a9 (fun h=>x _ h rfl);have cC:∀b',W=some b'-> ¬b'=d:=fun b' e h=>(ao b' e).elim (fun j=>(x b' j h)) (fun j=>by have:=cu;omega);have dJ:∀b',W=some b'-> ¬b'=f:=fun b' e h=>(ao b' e).elim (fun j=>(y b' j h)) (fun j=>by have:=cv;omega);refine qA a9 iZ<|yK 4 (yT [iX p.state,uX k.1.b0,uX k.1.b1,uX k.1.b2,iX k.1.n,.string p.marks,.slice (po.map at0) pn pc,.string p.text,iX p.within] cB fun dK cD ap=>?_);have cE:=zu cz ap (fun i hi (h:i=d)=>by omega);have cF:=cA.ch ap (fun b hb (e:b=d)=>by have:=(hP.2.2.2 b hb).2;have:=a4;omega);have bb:=cx.ch ap (fun b e (h:b=d)=>cC b e h);refine q8<|yd [5] [] .z<|yDe (nS ?_);refine q9 (yR2 [.agg #[iX p.state,uX k.1.b0,uX k.1.b1,uX k.1.b2,iX k.1.n,.string p.marks,.slice (po.map at0) pn pc,.string p.text,iX p.within],.slice (W.map at0) b9 ba] (.a (cD.cs 0 9) .z) ?_);refine Fed.mk' (p':=(PS.mk p.state ⟨k.1.b0,k.1.b1,k.1.b2,k.1.n⟩ p.marks p.params p.text p.within)) (l:=(([]++(qbe p.utf).map acP)++k.2.map acP)) po pn pc W b9 ba (.inr (fun b h=>(hP.2.2.2 b h).2)) rfl (cF.old) (qcj bb ?_ fun b e=>⟨cy b e,bb.ltOf e⟩) (Up.ch cE) ?_
  ·simp only[iD,j7,jf,false_or,iA];rintro a (⟨_,_,rfl⟩|⟨_,_,rfl⟩)<;>rfl
  simp only[qT,atP,C,t,A,E,↓reduceIte,Int.reduceLT,Int.reduceLE,Int.reduceEq,and_true,true_and,or_true,true_or,or_false,false_or,and_self,iO,ie,am]
 refine yk<|ys<|qa<|yx 3<|yc (rE c 27) (fun t=>?_) fun t=>?_
 ·exfalso;omega
 refine ysr<|yq 3<|yw [28] (rL c 32) (fun A=>?_) fun A=>?_
 ·exfalso;omega
 refine yz 7<|yc (rE c 127) (fun E=>?_) fun E=>?_
 ·exfalso;omega
 refine qo (nB (nS ?_));refine ysr<|yp 3 [] (.a (B.cs 1 4) .z) ?_;have cG:f<a1.heap.size:=B.lt;have dL:d<a1.heap.size:=a2.lt;obtain⟨m,aq⟩:∃X,qdg p.utf c=X:=⟨_,rfl⟩
 refine yo (yC (qhH aq p.utf c _ ay hp.u hcB) ?_);rintro _ dM ⟨dN,dO,dP,rfl,cH,cI,aa⟩;refine⟨_,rfl,?_⟩;have cJ:=zu aw aa iZ;have cK:=ax.ch aa iZ;have cL:=B.ch aa id;have cM:=a2.ch aa id;refine yq 8<|yo (yT [iX p.state,uX m.1.b0,uX m.1.b1,uX m.1.b2,iX m.1.n,.string p.marks,.slice (po.map at0) pn pc,.string p.text,iX p.within] cL fun dQ cN ab=>?_);have cO:=zu cJ ab (fun i hi (h:i=f)=>by omega);have cP:=cK.ch ab (fun b hb (e:b=f)=>by have:=(hP.2.2.2 b hb).2;have:=I;omega);have cQ:=cM.ch ab (fun(h:d=f)=>by have:=a0.lt;omega);have cR:=cH.ch ab (fun b e (h:b=f)=>by have:=cI b e;have:=cG;omega);refine yz 10<|ys<|yDC [4] fun bc dR Y=>?_;have bd:=zu cO Y iZ;have cS:=cP.ch Y iZ;have bf:=cQ.ch Y id;have bg:=cR.ch Y iZ;have bh:=cN.ch Y id;refine ydC (uL 0 3) [] (fun u hu=>(.a (qap hu (bh.cs 0 9) id) .z)) ?_;have cT:d<bc.heap.size:=bf.lt;have cU:f<bc.heap.size:=bh.lt;have cV:=bg.1;rw[hZ,iN]at cV;have an:=qeL hp.u c;rw[aq]at an;refine yH 3 (yC (qec (q:=none) (al:=[]) _ (Own.nil _ _ _) bg (fun b e h=>by cases h) (by constructor<;>omega)) ?_);rintro _ dS ⟨Z,bi,bj,rfl,cW,ar,H⟩;refine⟨_,rfl,?_⟩;replace H:=qM H;have cX:∀b,Z=some b->w.heap.size<=b:=fun b e=>(ar b e).elim (fun h=>by cases h) (fun h=>by have:=zzs bd;omega);have cY:=zu bd H iZ;have cZ:=cS.ch H iZ
 have d0:=bf.ch H id;have d1:∀b',Z=some b'-> ¬b'=d:=fun b' e h=>(ar b' e).elim (fun j=>by cases j) (fun j=>by have:=cT;omega);have dT:∀b',Z=some b'-> ¬b'=f:=fun b' e h=>(ar b' e).elim (fun j=>by cases j) (fun j=>by have:=cU;omega);refine qaN H<|yK 4 (yT [iX p.state,uX m.1.b0,uX m.1.b1,uX m.1.b2,iX m.1.n,.string p.marks,.slice (po.map at0) pn pc,.string p.text,iX p.within] d0 fun dU d2 au=>?_);have d3:=zu cY au (fun i hi (h:i=d)=>by omega);have d4:=cZ.ch au (fun b hb (e:b=d)=>by have:=(hP.2.2.2 b hb).2;have:=a4;omega);have bk:=cW.ch au (fun b e (h:b=d)=>d1 b e h);refine q8<|yd [5] [] .z<|yDe (nS ?_);refine q9 (yR2 [.agg #[iX p.state,uX m.1.b0,uX m.1.b1,uX m.1.b2,iX m.1.n,.string p.marks,.slice (po.map at0) pn pc,.string p.text,iX p.within],.slice (Z.map at0) bi bj] (.a (d2.cs 0 9) .z) ?_);refine Fed.mk' (p':=(PS.mk p.state ⟨m.1.b0,m.1.b1,m.1.b2,m.1.n⟩ p.marks p.params p.text p.within)) (l:=([]++m.2.map acP)) po pn pc Z bi bj (.inr (fun b h=>(hP.2.2.2 b h).2)) rfl (d4.old) (qcj bk ?_ fun b e=>⟨cX b e,bk.ltOf e⟩) (Up.ch d3) ?_
 ·simp only[iD,j7,jf,false_or,iA];rintro a ⟨_,_,rfl⟩<;>rfl
 simp only[qT,atP,C,t,A,E,↓reduceIte,Int.reduceLT,Int.reduceLE,Int.reduceEq,and_true,true_and,or_true,true_or,or_false,false_or,and_self,iO,ie,aq]
theorem qoR (s:Int):(atP s).state=s:=rfl
theorem feed_any {w:World}{po:Option Nat}{pn pc:Nat}{p:PS}(hP:IntsAt w .i64 po pn pc p.params (fun b=>po=some b))(c:Int)(hcB:0<=c/\c<=255)(hU:qcD w)(hp:p.lim)(hn8:pn<=8):CP 109 [.agg (PS.vals p (.slice (po.map at0) pn pc)).toArray,uX c].toArray w fun e w'=>Fed w w' e po (qbn p c).1 (qbn p c).2:=by
 refine yA Tryz.func109 rfl<|ysr<|yo (yN (PS.vals p (.slice (po.map at0) pn pc)) 94 fun dq v bm dr aj R=>?_);have ds:=zn bm (zm w);have ak:=zu (zm w) R iZ;have bn:=hP.ch R iZ;have bo:=qaf R hU id id;refine yo (yN [iX 0,uX 0,uX 0,uX 0,iX 0,oX,nX,oX,iX 0] 94 fun x d bp dt j I=>?_);have C:=zn bp ak;have k:=zu ak I iZ;have D:=bn.ch I iZ;have bq:=qaf I bo id id;have g:=aj.ch I id;refine yz 3<|x_scope 0 ([(1,uX c),(2,pX v),(4,pX d),(5,nX)]) (fun u=>(p.state=7/\c≠92)/\Blk u v [iX 1,uX 0,uX 0,uX 0,iX 0,oX,nX,oX,iX 0] 94/\Blk u d [iX 0,uX 0,uX 0,uX 0,iX 0,oX,nX,oX,iX 0] 94/\Up w.heap.size w u) rfl ?_ (fun u31 br=>?_)
 ·refine ys<|x_label (nS ?_);refine ys<|qa<|ysr<|yp 4 [] (.l (g.c 0) .z)<|ye<|yc (rE p.state 0) (fun o=>?_) fun o=>?_
  ·refine ysr<|yp 2 [] (.a (g.cs 0 9) .z)<|yo (yC (qne D c hcB bq hp) ?_);rintro _ al ⟨S,T,U,am,an,ao,rfl,bs,bt,ap⟩;refine⟨_,rfl,?_⟩;have du:v<x.heap.size:=g.lt;have aq:d<x.heap.size:=j.lt;have bu:=zu k ap iZ;have bv:=j.ch ap id;have bw:al.heap.size<=al.heap.size:=iE _;refine yq 5<|yo (yT (PS.vals (qT p c).1 (.slice (S.map at0) T U)) bv fun dv bx J=>?_);have bz:=zu bu J (fun i hi (h:i=d)=>by omega);have bA:=bs.ch J (fun b hb (e:b=d)=>hb.elim (fun hb=>by have:=(hP.2.2.2 b hb).2;have:=C;omega) (fun hb=>by have:=aq;omega));have bB:=bt.ch J (fun b hb (e:b=d)=>by have:=aq;omega);have dw:=iq bw (zzs J);refine yz 7<|q9 (rB (rS (qaA (yR2 [.agg (PS.vals (qT p c).1 (.slice (S.map at0) T U)).toArray,.slice (am.map at0) an ao] (.a (bx.cs 0 9) .z) ?_))));have G:=zzs k;refine Fed.mk2 (p':=(qT p c).1) (l:=(qT p c).2) S T U am an ao rfl (bA.mono fun b hb=>hb.imp id fun h=>⟨by omega,by omega⟩) (bB.mono fun b h=>⟨⟨by omega,by omega⟩,h.2⟩) (Up.ch bz) ?_
   simp only[qbn,qaV,o,↓reduceIte,Int.reduceEq,Int.reduceLE,Int.reduceLT,reduceCtorEq,sA,ne_eq]
  refine ysr<|yp 4 [] (.l (g.c 0) .z)<|ye<|yc (rE p.state 7) (fun q=>?_) fun q=>?_
  ·refine ys<|yx 2<|yc (rE c 92) (fun f=>?_) fun f=>?_
   ·refine ysr<|yp 3 [] (.a (g.cs 0 9) (.l (g.c 8) .z))<|yo (yC (qhD D p.within) ?_);rintro _ ar ⟨V,W,X,au,av,aw,rfl,bC,bD,ax⟩;refine⟨_,rfl,?_⟩;have dx:v<x.heap.size:=g.lt;have ay:d<x.heap.size:=j.lt;have bE:=zu k ax iZ;have bF:=j.ch ax id;have bG:ar.heap.size<=ar.heap.size:=iE _;refine yq 6<|yo (yT (PS.vals (qz p p.within).1 (.slice (V.map at0) W X)) bF fun dy bH K=>?_);have bI:=zu bE K (fun i hi (h:i=d)=>by omega);have bJ:=bC.ch K (fun b hb (e:b=d)=>hb.elim (fun hb=>by have:=(hP.2.2.2 b hb).2;have:=C;omega) (fun hb=>by have:=ay;omega));have bK:=bD.ch K (fun b hb (e:b=d)=>by have:=ay;omega);have dz:=iq bG (zzs K);refine yz 8<|q9 (rS (rB (rS (qaA (yR2 [.agg (PS.vals (qz p p.within).1 (.slice (V.map at0) W X)).toArray,.slice (au.map at0) av aw] (.a (bH.cs 0 9) .z) ?_)))));have G:=zzs k;refine Fed.mk2 (p':=(qz p p.within).1) (l:=(qz p p.within).2) V W X au av aw rfl (bJ.mono fun b hb=>hb.imp id fun h=>⟨by omega,by omega⟩) (bK.mono fun b h=>⟨⟨by omega,by omega⟩,h.2⟩) (Up.ch bI) ?_
    simp only[qbn,qaV,o,q,f,↓reduceIte,Int.reduceEq,Int.reduceLE,Int.reduceLT,reduceCtorEq,sA,ne_eq]
   refine yk<|ysr<|yo (yQ (qaw 1 _) fun dA Y=>?_);have bL:=zu k Y iZ;have bM:=g.ch Y id;have bN:=j.ch Y id;refine yo (yT [iX 1,uX 0,uX 0,uX 0,iX 0,oX,nX,oX,iX 0] bM fun dB bO az=>?_);have bP:=zu bL az (fun i hi (h:i=v)=>by omega);have bQ:=bN.ch az (fun(h:d=v)=>by have:=aj.lt;omega);refine ye<|qV [1,2,4,5] (f':=[(1,uX c),(2,pX v),(4,pX d),(5,nX)]) ?_;exact x_goto (qnd (gS (qok ⟨⟨q,f⟩,bO,bQ,bP⟩)))
  refine ysr<|yp 4 [] (.l (g.c 0) .z)<|ye<|yc (rM 5 p.state) (fun f=>?_) fun f=>?_
  ·refine ysr<|yp 2 [] (.a (g.cs 0 9) .z)<|yo (yC (qnc D c (by have:=hp.t;omega)) ?_);rintro _ aA ⟨Z,a0,a1,aB,aC,aD,rfl,bR,bS,aE⟩;refine⟨_,rfl,?_⟩;have dC:v<x.heap.size:=g.lt;have aF:d<x.heap.size:=j.lt;have bT:=zu k aE iZ;have bU:=j.ch aE id;have bV:aA.heap.size<=aA.heap.size:=iE _;refine yq 5<|yo (yT (PS.vals (qS p c).1 (.slice (Z.map at0) a0 a1)) bU fun dD bW L=>?_);have bX:=zu bT L (fun i hi (h:i=d)=>by omega);have bY:=bR.ch L (fun b hb (e:b=d)=>hb.elim (fun hb=>by have:=(hP.2.2.2 b hb).2;have:=C;omega) (fun hb=>by have:=aF;omega));have bZ:=bS.ch L (fun b hb (e:b=d)=>by have:=aF;omega);have dE:=iq bV (zzs L);refine yz 7<|q9 (rB (rS (qaA (yR2 [.agg (PS.vals (qS p c).1 (.slice (Z.map at0) a0 a1)).toArray,.slice (aB.map at0) aC aD] (.a (bW.cs 0 9) .z) ?_))));have G:=zzs k;refine Fed.mk2 (p':=(qS p c).1) (l:=(qS p c).2) Z a0 a1 aB aC aD rfl (bY.mono fun b hb=>hb.imp id fun h=>⟨by omega,by omega⟩) (bZ.mono fun b h=>⟨⟨by omega,by omega⟩,h.2⟩) (Up.ch bX) ?_
   simp only[qbn,qaV,o,q,f,↓reduceIte,Int.reduceEq,Int.reduceLE,Int.reduceLT,reduceCtorEq,sA,ne_eq]
  refine ysr<|yq 3<|yw [40] (rE c 24) (fun r=>?_) fun r=>?_
  ·refine yz 7<|yct<|ysr<|yo (yQ (qaw 0 _) fun dF aG=>?_);have c0:=zu k aG iZ;have c1:=j.ch aG id;refine yo (yT [iX 0,uX 0,uX 0,uX 0,iX 0,oX,nX,oX,iX 0] c1 fun dG c2 c3=>?_);have c4:=zu c0 c3 (fun i hi (h:i=d)=>by omega);refine yz 3<|q9 (rB (rS (qaA (yR2 [.agg #[iX 0,uX 0,uX 0,uX 0,iX 0,oX,nX,oX,iX 0],nX] (.a (c2.cs 0 9) .z) ?_))));refine Fed.mk' (p':=(PS.mk 0 ⟨0,0,0,0⟩ ByteArray.empty [] ByteArray.empty 0)) (l:=[]) none 0 0 none 0 0 (.inl ⟨rfl,rfl,rfl,rfl⟩) rfl (IntsAt.nil _ _ _) (ActsAt.nil _ _) (Up.ch c4) ?_;simp only[qbn,qaV,atP,acX,o,q,f,r,↓reduceIte,Int.reduceEq,Int.reduceLE,Int.reduceLT,reduceCtorEq,sA,ne_eq]
  refine yz 7<|yc (rE c 26) (fun s=>?_) fun s=>?_
  ·refine ysr<|yo (yQ (qaw 0 _) fun dH aH=>?_);have c5:=zu k aH iZ;have c6:=j.ch aH id;refine yo (yT [iX 0,uX 0,uX 0,uX 0,iX 0,oX,nX,oX,iX 0] c6 fun dI c7 c8=>?_);have c9:=zu c5 c8 (fun i hi (h:i=d)=>by omega);refine yz 3<|q9 (rB (rS (qaA (yR2 [.agg #[iX 0,uX 0,uX 0,uX 0,iX 0,oX,nX,oX,iX 0],nX] (.a (c7.cs 0 9) .z) ?_))));refine Fed.mk' (p':=(PS.mk 0 ⟨0,0,0,0⟩ ByteArray.empty [] ByteArray.empty 0)) (l:=[]) none 0 0 none 0 0 (.inl ⟨rfl,rfl,rfl,rfl⟩) rfl (IntsAt.nil _ _ _) (ActsAt.nil _ _) (Up.ch c9) ?_;simp only[qbn,qaV,atP,acX,o,q,f,r,s,↓reduceIte,Int.reduceEq,Int.reduceLE,Int.reduceLT,reduceCtorEq,sA,ne_eq]
  refine yx 3<|yc (rE c 27) (fun y=>?_) fun y=>?_
  ·refine ysr<|yo (yQ (qaw 1 _) fun dJ aI=>?_);have ca:=zu k aI iZ;have cb:=j.ch aI id;refine yo (yT [iX 1,uX 0,uX 0,uX 0,iX 0,oX,nX,oX,iX 0] cb fun dK cc cd=>?_);have ce:=zu ca cd (fun i hi (h:i=d)=>by omega);refine yz 3<|q9 (rB (rS (qaA (yR2 [.agg #[iX 1,uX 0,uX 0,uX 0,iX 0,oX,nX,oX,iX 0],nX] (.a (cc.cs 0 9) .z) ?_))));refine Fed.mk' (p':=(PS.mk 1 ⟨0,0,0,0⟩ ByteArray.empty [] ByteArray.empty 0)) (l:=[]) none 0 0 none 0 0 (.inl ⟨rfl,rfl,rfl,rfl⟩) rfl (IntsAt.nil _ _ _) (ActsAt.nil _ _) (Up.ch ce) ?_;simp only[qbn,qaV,atP,acX,o,q,f,r,s,y,↓reduceIte,Int.reduceEq,Int.reduceLE,Int.reduceLT,reduceCtorEq,sA,ne_eq]
  refine yx 3<|yc (rL c 32) (fun A=>?_) fun A=>?_
  ·refine ysr<|yp 3 [] (.a (g.cs 0 9) .z)<|yo (yB [iX 1,rX 0,uX c,oX,nX,oX] 190 1 fun dL a2 cf dM cg a3=>?_);have dN:=zn cf k;have ci:=zu k a3 iZ;have cj:=D.ch a3 iZ;have ck:=j.ch a3 id;refine yo (yT (PS.vals p (.slice (po.map at0) pn pc)) ck fun dO cl a4=>?_);have aJ:=zu ci a4 (fun i hi (h:i=d)=>by omega);have cm:=cj.ch a4 (fun b hb (e:b=d)=>by have:=(hP.2.2.2 b hb).2;have:=C;omega);have aK:=cg.ch a4 (fun(h:a2=d)=>by have:=j.lt;omega);refine yz 6<|q9 (rB (rS (qaA (yR2 [.agg (PS.vals p (.slice (po.map at0) pn pc)).toArray,.slice (some ⟨a2,0,none⟩) 1 1] (.a (cl.cs 0 9) .z) ?_))));refine Fed.mk' (p':=(PS.mk p.state ⟨p.utf.b0,p.utf.b1,p.utf.b2,p.utf.n⟩ p.marks p.params p.text p.within)) (l:=[Ac.mk 1 0 c ByteArray.empty [] ByteArray.empty]) po pn pc (some a2) 1 1 (.inr (fun b h=>(hP.2.2.2 b h).2)) rfl (cm.old) (ActsAt.one aK ⟨by have:=zzs aJ;omega,aK.lt⟩ ⟨none,0,0,rfl,IntsAt.nil _ _ _⟩) (Up.ch aJ) ?_;simp only[qbn,qaV,atP,acX,o,q,f,r,s,y,A,↓reduceIte,Int.reduceEq,Int.reduceLE,Int.reduceLT,reduceCtorEq,sA,ne_eq]
  refine yx 3<|yc (rM 127 c) (fun H=>?_) fun H=>?_
  ·refine ysr<|yp 1 [] (.a (g.cs 0 9) .z)<|yo (yT (PS.vals p (.slice (po.map at0) pn pc)) j fun dP cn aL=>?_);have co:=zu k aL (fun i hi (h:i=d)=>by omega);have cp:=D.ch aL (fun b hb (e:b=d)=>by have:=(hP.2.2.2 b hb).2;have:=C;omega);refine yz 3<|q9 (rB (rS (qaA (yR2 [.agg (PS.vals p (.slice (po.map at0) pn pc)).toArray,nX] (.a (cn.cs 0 9) .z) ?_))));refine Fed.mk' (p':=(PS.mk p.state ⟨p.utf.b0,p.utf.b1,p.utf.b2,p.utf.n⟩ p.marks p.params p.text p.within)) (l:=[]) po pn pc none 0 0 (.inl ⟨rfl,rfl,rfl,rfl⟩) rfl (cp.old) (ActsAt.nil _ _) (Up.ch co) ?_;simp only[qbn,qaV,atP,acX,o,q,f,r,s,y,A,H,↓reduceIte,Int.reduceEq,Int.reduceLE,Int.reduceLT,reduceCtorEq,sA,ne_eq]
  refine ysr<|yp 4 [] (.l (g.c 0) .z)<|yw [64] (rE p.state 3) (fun M=>?_) fun M=>?_
  ·refine yz 9<|yct<|ysr<|yp 2 [] (.a (g.cs 0 9) .z)<|yo (yC (qoL D c hcB (by have:=hp.m;omega) hn8 hp.b) ?_);rintro _ aM ⟨a5,a6,a7,aN,aO,aP,rfl,cq,cr,aQ⟩;refine⟨_,rfl,?_⟩;have dQ:v<x.heap.size:=g.lt;have aR:d<x.heap.size:=j.lt;have ct:=zu k aQ iZ;have cu:=j.ch aQ id;have cv:aM.heap.size<=aM.heap.size:=iE _;refine yq 5<|yo (yT (PS.vals (qbE p c).1 (.slice (a5.map at0) a6 a7)) cu fun dR cw N=>?_);have cx:=zu ct N (fun i hi (h:i=d)=>by omega);have cy:=cq.ch N (fun b hb (e:b=d)=>hb.elim (fun hb=>by have:=(hP.2.2.2 b hb).2;have:=C;omega) (fun hb=>by have:=aR;omega));have cz:=cr.ch N (fun b hb (e:b=d)=>by have:=aR;omega);have dS:=iq cv (zzs N);refine yz 7<|q9 (rB (rS (qaA (yR2 [.agg (PS.vals (qbE p c).1 (.slice (a5.map at0) a6 a7)).toArray,.slice (aN.map at0) aO aP] (.a (cw.cs 0 9) .z) ?_))));have G:=zzs k;refine Fed.mk2 (p':=(qbE p c).1) (l:=(qbE p c).2) a5 a6 a7 aN aO aP rfl (cy.mono fun b hb=>hb.imp id fun h=>⟨by omega,by omega⟩) (cz.mono fun b h=>⟨⟨by omega,by omega⟩,h.2⟩) (Up.ch cx) ?_;simp only[qbn,qaV,o,q,f,r,s,y,A,H,M,↓reduceIte,Int.reduceEq,Int.reduceLE,Int.reduceLT,reduceCtorEq,sA,ne_eq]
  refine yp 9 [] (.l (g.c 0) .z)<|ye<|yc (rE p.state 4) (fun a8=>?_) fun a8=>?_
  ·refine ysr<|yp 2 [] (.a (g.cs 0 9) .z)<|yo (yC (qoL D c hcB (by have:=hp.m;omega) hn8 hp.b) ?_);rintro _ aS ⟨a9,aa,ab,aT,aU,aV,rfl,cA,cB,aW⟩;refine⟨_,rfl,?_⟩;have dT:v<x.heap.size:=g.lt;have aX:d<x.heap.size:=j.lt;have cC:=zu k aW iZ;have cD:=j.ch aW id;have cE:aS.heap.size<=aS.heap.size:=iE _;refine yq 5<|yo (yT (PS.vals (qbE p c).1 (.slice (a9.map at0) aa ab)) cD fun dU cF O=>?_);have cG:=zu cC O (fun i hi (h:i=d)=>by omega);have cH:=cA.ch O (fun b hb (e:b=d)=>hb.elim (fun hb=>by have:=(hP.2.2.2 b hb).2;have:=C;omega) (fun hb=>by have:=aX;omega));have cI:=cB.ch O (fun b hb (e:b=d)=>by have:=aX;omega);have dV:=iq cE (zzs O);refine yz 7<|q9 (rB (rS (qaA (yR2 [.agg (PS.vals (qbE p c).1 (.slice (a9.map at0) aa ab)).toArray,.slice (aT.map at0) aU aV] (.a (cF.cs 0 9) .z) ?_))));have G:=zzs k;refine Fed.mk2 (p':=(qbE p c).1) (l:=(qbE p c).2) a9 aa ab aT aU aV rfl (cH.mono fun b hb=>hb.imp id fun h=>⟨by omega,by omega⟩) (cI.mono fun b h=>⟨⟨by omega,by omega⟩,h.2⟩) (Up.ch cG) ?_;simp only[qbn,qaV,o,q,f,r,s,y,A,H,M,a8,↓reduceIte,Int.reduceEq,Int.reduceLE,Int.reduceLT,reduceCtorEq,sA,ne_eq]
  refine qo (nB (nS ?_));refine ysr<|yp 2 [] (.a (g.cs 0 9) .z)<|yo (yC (qhE D c) ?_);rintro _ aY ⟨ac,ad,ae,aZ,b3,b4,rfl,cJ,cK,b5⟩;refine⟨_,rfl,?_⟩;have dW:v<x.heap.size:=g.lt;have b6:d<x.heap.size:=j.lt;have cL:=zu k b5 iZ;have cM:=j.ch b5 id;have cN:aY.heap.size<=aY.heap.size:=iE _;refine yq 5<|yo (yT (PS.vals (qs p c).1 (.slice (ac.map at0) ad ae)) cM fun dX cO P=>?_);have cP:=zu cL P (fun i hi (h:i=d)=>by omega);have cQ:=cJ.ch P (fun b hb (e:b=d)=>hb.elim (fun hb=>by have:=(hP.2.2.2 b hb).2;have:=C;omega) (fun hb=>by have:=b6;omega));have cR:=cK.ch P (fun b hb (e:b=d)=>by have:=b6;omega);have dY:=iq cN (zzs P);refine yz 7<|q9 (qaA (yR2 [.agg (PS.vals (qs p c).1 (.slice (ac.map at0) ad ae)).toArray,.slice (aZ.map at0) b3 b4] (.a (cO.cs 0 9) .z) ?_));have G:=zzs k;refine Fed.mk2 (p':=(qs p c).1) (l:=(qs p c).2) ac ad ae aZ b3 b4 rfl (cQ.mono fun b hb=>hb.imp id fun h=>⟨by omega,by omega⟩) (cR.mono fun b h=>⟨⟨by omega,by omega⟩,h.2⟩) (Up.ch cP) ?_
  simp only[qbn,qaV,o,q,f,r,s,y,A,H,M,a8,↓reduceIte,Int.reduceEq,Int.reduceLE,Int.reduceLT,reduceCtorEq,sA,ne_eq]
 obtain⟨b7,cS⟩:=br;obtain⟨B,E,F⟩:=cS;have o:p.state=7:=b7.1;have q:c≠92:=b7.2;refine ys<|yk<|ys<|qa<|ysr<|yp 4 [] (.l (B.c 0) .z)<|ye<|ycf<|ysr<|yp 4 [] (.l (B.c 0) .z)<|ye<|ycf<|ysr<|yp 4 [] (.l (B.c 0) .z)<|ye<|ycf<|ysr<|yq 3<|yw [40] (rE c 24) (fun f=>?_) fun f=>?_
 ·refine yz 7<|yct<|ysr<|yo (yQ (qaw 0 _) fun dZ b8=>?_);have cT:=zu F b8 iZ;have cU:=E.ch b8 id;refine yo (yT [iX 0,uX 0,uX 0,uX 0,iX 0,oX,nX,oX,iX 0] cU fun e0 cV cW=>?_);have cX:=zu cT cW (fun i hi (h:i=d)=>by omega);refine yz 3<|q9 (rB (rS (qaA (yR2 [.agg #[iX 0,uX 0,uX 0,uX 0,iX 0,oX,nX,oX,iX 0],nX] (.a (cV.cs 0 9) .z) ?_))));refine Fed.mk' (p':=(PS.mk 0 ⟨0,0,0,0⟩ ByteArray.empty [] ByteArray.empty 0)) (l:=[]) none 0 0 none 0 0 (.inl ⟨rfl,rfl,rfl,rfl⟩) rfl (IntsAt.nil _ _ _) (ActsAt.nil _ _) (Up.ch cX) ?_;simp only[qbn,qaV,atP,acX,o,q,f,↓reduceIte,Int.reduceEq,Int.reduceLE,Int.reduceLT,reduceCtorEq,sA,ne_eq]
 refine yz 7<|yc (rE c 26) (fun r=>?_) fun r=>?_
 ·refine ysr<|yo (yQ (qaw 0 _) fun e1 b9=>?_);have cY:=zu F b9 iZ;have cZ:=E.ch b9 id;refine yo (yT [iX 0,uX 0,uX 0,uX 0,iX 0,oX,nX,oX,iX 0] cZ fun e2 d0 d1=>?_);have d2:=zu cY d1 (fun i hi (h:i=d)=>by omega);refine yz 3<|q9 (rB (rS (qaA (yR2 [.agg #[iX 0,uX 0,uX 0,uX 0,iX 0,oX,nX,oX,iX 0],nX] (.a (d0.cs 0 9) .z) ?_))));refine Fed.mk' (p':=(PS.mk 0 ⟨0,0,0,0⟩ ByteArray.empty [] ByteArray.empty 0)) (l:=[]) none 0 0 none 0 0 (.inl ⟨rfl,rfl,rfl,rfl⟩) rfl (IntsAt.nil _ _ _) (ActsAt.nil _ _) (Up.ch d2) ?_;simp only[qbn,qaV,atP,acX,o,q,f,r,↓reduceIte,Int.reduceEq,Int.reduceLE,Int.reduceLT,reduceCtorEq,sA,ne_eq]
 refine yx 3<|yc (rE c 27) (fun s=>?_) fun s=>?_
 ·refine ysr<|yo (yQ (qaw 1 _) fun e3 ba=>?_);have d3:=zu F ba iZ;have d4:=E.ch ba id;refine yo (yT [iX 1,uX 0,uX 0,uX 0,iX 0,oX,nX,oX,iX 0] d4 fun e4 d5 d6=>?_);have d7:=zu d3 d6 (fun i hi (h:i=d)=>by omega);refine yz 3<|q9 (rB (rS (qaA (yR2 [.agg #[iX 1,uX 0,uX 0,uX 0,iX 0,oX,nX,oX,iX 0],nX] (.a (d5.cs 0 9) .z) ?_))));refine Fed.mk' (p':=(PS.mk 1 ⟨0,0,0,0⟩ ByteArray.empty [] ByteArray.empty 0)) (l:=[]) none 0 0 none 0 0 (.inl ⟨rfl,rfl,rfl,rfl⟩) rfl (IntsAt.nil _ _ _) (ActsAt.nil _ _) (Up.ch d7) ?_;simp only[qbn,qaV,atP,acX,o,q,f,r,s,↓reduceIte,Int.reduceEq,Int.reduceLE,Int.reduceLT,reduceCtorEq,sA,ne_eq]
 refine yx 3<|yc (rL c 32) (fun y=>?_) fun y=>?_
 ·refine ysr<|yp 3 [] (.a (B.cs 0 9) .z)<|yo (yB [iX 1,rX 0,uX c,oX,nX,oX] 190 1 fun e5 af d8 e6 d9 bb=>?_);have e7:=zn d8 F;have da:=zu F bb iZ;have db:=E.ch bb id;refine yo (yT [iX 1,uX 0,uX 0,uX 0,iX 0,oX,nX,oX,iX 0] db fun e8 dc bc=>?_);have bd:=zu da bc (fun i hi (h:i=d)=>by omega);have bf:=d9.ch bc (fun(h:af=d)=>by have:=E.lt;omega);refine yz 6<|q9 (rB (rS (qaA (yR2 [.agg #[iX 1,uX 0,uX 0,uX 0,iX 0,oX,nX,oX,iX 0],.slice (some ⟨af,0,none⟩) 1 1] (.a (dc.cs 0 9) .z) ?_))));refine Fed.mk' (p':=(PS.mk 1 ⟨0,0,0,0⟩ ByteArray.empty [] ByteArray.empty 0)) (l:=[Ac.mk 1 0 c ByteArray.empty [] ByteArray.empty]) none 0 0 (some af) 1 1 (.inr (fun b h=>by cases h)) rfl (IntsAt.nil _ _ _) (ActsAt.one bf ⟨by have:=zzs bd;omega,bf.lt⟩ ⟨none,0,0,rfl,IntsAt.nil _ _ _⟩) (Up.ch bd) ?_;simp only[qbn,qaV,atP,acX,o,q,f,r,s,y,↓reduceIte,Int.reduceEq,Int.reduceLE,Int.reduceLT,reduceCtorEq,sA,ne_eq]
 refine yx 3<|yc (rM 127 c) (fun A=>?_) fun A=>?_
 ·refine ysr<|yp 1 [] (.a (B.cs 0 9) .z)<|yo (yT [iX 1,uX 0,uX 0,uX 0,iX 0,oX,nX,oX,iX 0] E fun e9 dd de=>?_);have df:=zu F de (fun i hi (h:i=d)=>by omega);refine yz 3<|q9 (rB (rS (qaA (yR2 [.agg #[iX 1,uX 0,uX 0,uX 0,iX 0,oX,nX,oX,iX 0],nX] (.a (dd.cs 0 9) .z) ?_))));refine Fed.mk' (p':=(PS.mk 1 ⟨0,0,0,0⟩ ByteArray.empty [] ByteArray.empty 0)) (l:=[]) none 0 0 none 0 0 (.inl ⟨rfl,rfl,rfl,rfl⟩) rfl (IntsAt.nil _ _ _) (ActsAt.nil _ _) (Up.ch df) ?_;simp only[qbn,qaV,atP,acX,o,q,f,r,s,y,A,↓reduceIte,Int.reduceEq,Int.reduceLE,Int.reduceLT,reduceCtorEq,sA,ne_eq]
 refine ysr<|yp 9 [] (.l (B.c 0) (.l (B.c 0) .z))<|ye<|ycf<|qo (nB (nS ?_));refine ysr<|yp 2 [] (.a (B.cs 0 9) .z)<|yo (yC (qhE (p:=(atP 1)) (IntsAt.nil u31 .i64 _) c) ?_);rintro _ bg ⟨ag,ah,ai,bh,bi,bj,rfl,dg,dh,bk⟩;refine⟨_,rfl,?_⟩;have ea:v<u31.heap.size:=B.lt;have bl:d<u31.heap.size:=E.lt;have di:=zu F bk iZ;have dj:=E.ch bk id;have dk:bg.heap.size<=bg.heap.size:=iE _;refine yq 5<|yo (yT (PS.vals (qs (atP 1) c).1 (.slice (ag.map at0) ah ai)) dj fun eb dl Q=>?_);have dm:=zu di Q (fun i hi (h:i=d)=>by omega);have dn:=dg.ch Q (fun b hb (e:b=d)=>hb.elim (fun hb=>by cases hb) (fun hb=>by have:=bl;omega));have dp:=dh.ch Q (fun b hb (e:b=d)=>by have:=bl;omega);have ec:=iq dk (zzs Q);refine yz 7<|q9 (qaA (yR2 [.agg (PS.vals (qs (atP 1) c).1 (.slice (ag.map at0) ah ai)).toArray,.slice (bh.map at0) bi bj] (.a (dl.cs 0 9) .z) ?_));have G:=zzs F;refine Fed.mk2 (p':=(qs (atP 1) c).1) (l:=(qs (atP 1) c).2) ag ah ai bh bi bj rfl (dn.mono fun b hb=>hb.imp (fun h=>by cases h) fun h=>⟨by omega,by omega⟩) (dp.mono fun b h=>⟨⟨by omega,by omega⟩,h.2⟩) (Up.ch dm) ?_
 simp only[qbn,qaV,qoR,o,q,f,r,s,y,A,↓reduceIte,Int.reduceEq,Int.reduceLE,Int.reduceLT,reduceCtorEq,sA,ne_eq]
def p10 (i:Nat):Int:=if i=0 then 1 else if i=1 then 10 else 100
def qo1 (w:World):Prop:= ∀i,i<3->w.cell? ⟨4,i,none⟩=some (.int .u64 (p10 i))
theorem qgx {w w':World}{B:Nat->Prop}(h:Ch B w w')(hT:qo1 w)(h0:¬B 4):qo1 w':=fun j hj=>qg h (hT j hj) h0
def len8S:ByteArray:=⟨#[0,1,2,2,3,3,3,3,4,4,4,4,4,4,4,4,5,5,5,5,5,5,5,5,5,5,5,5,5,5,5,5,6,6,6,6,6,6,6,6,6,6,6,6,6,6,6,6,6,6,6,6,6,6,6,6,6,6,6,6,6,6,6,6,7,7,7,7,7,7,7,7,7,7,7,7,7,7,7,7,7,7,7,7,7,7,7,7,7,7,7,7,7,7,7,7,7,7,7,7,7,7,7,7,7,7,7,7,7,7,7,7,7,7,7,7,7,7,7,7,7,7,7,7,7,7,7,7,8,8,8,8,8,8,8,8,8,8,8,8,8,8,8,8,8,8,8,8,8,8,8,8,8,8,8,8,8,8,8,8,8,8,8,8,8,8,8,8,8,8,8,8,8,8,8,8,8,8,8,8,8,8,8,8,8,8,8,8,8,8,8,8,8,8,8,8,8,8,8,8,8,8,8,8,8,8,8,8,8,8,8,8,8,8,8,8,8,8,8,8,8,8,8,8,8,8,8,8,8,8,8,8,8,8,8,8,8,8,8,8,8,8,8,8,8,8,8,8,8,8,8,8,8,8,8,8]⟩
def smallsS:ByteArray:=⟨#[48,48,48,49,48,50,48,51,48,52,48,53,48,54,48,55,48,56,48,57,49,48,49,49,49,50,49,51,49,52,49,53,49,54,49,55,49,56,49,57,50,48,50,49,50,50,50,51,50,52,50,53,50,54,50,55,50,56,50,57,51,48,51,49,51,50,51,51,51,52,51,53,51,54,51,55,51,56,51,57,52,48,52,49,52,50,52,51,52,52,52,53,52,54,52,55,52,56,52,57,53,48,53,49,53,50,53,51,53,52,53,53,53,54,53,55,53,56,53,57,54,48,54,49,54,50,54,51,54,52,54,53,54,54,54,55,54,56,54,57,55,48,55,49,55,50,55,51,55,52,55,53,55,54,55,55,55,56,55,57,56,48,56,49,56,50,56,51,56,52,56,53,56,54,56,55,56,56,56,57,57,48,57,49,57,50,57,51,57,52,57,53,57,54,57,55,57,56,57,57]⟩
def digS:ByteArray:=⟨#[48,49,50,51,52,53,54,55,56,57,97,98,99,100,101,102,103,104,105,106,107,108,109,110,111,112,113,114,115,116,117,118,119,120,121,122]⟩
def qfM (u:Int):ByteArray:=if u<10 then digS.extract u.toNat (u+1).toNat else smallsS.extract (u*2).toNat (u*2+2).toNat
theorem p_cell {w:World}(h:qo1 w)(x:Int)(h0:0<=x)(h1:x<=2):w.cell? ⟨4,0+x.toNat*1,none⟩=some (.int .u64 (p10 x.toNat)):=by
 rw[iJ,iN];exact h _ (by omega)
abbrev d10 (u:Int):Int:=Int.fdiv ((0+bt len8S u)*78913) (2^min (18:Int).toNat (IntKind.bits .i64))
theorem d10_bd:∀k,k<100->1<=k->(0<=d10 (k:Nat)/\d10 (k:Nat)<=2)/\d10 (k:Nat)+(if decide (p10 (d10 (k:Nat)).toNat<=((k:Nat):Int))=true then 1 else 0)=(if k<10 then 1 else 2):=by decide+kernel
set_option maxRecDepth 100000 in
theorem qoS (u:Int)(w:World)(h0:0<=u)(h1:u<=255):CP 155 [.int .u64 u].toArray w (RQ (iX (0+bt len8S u)) w):=by
 have d:=qcZ len8S u;have f:len8S.size=256:=by kernel_rfl
 have g:=h1;have h:=h0;refine yA Tryz.func155 rfl<|yx 1<|ys<|yx 2<|yc (rM 4294967296 u) (fun a=>?_) fun a=>?_
 ·exfalso;omega
 refine yk<|ys<|yx 2<|yc (rM 65536 u) (fun b=>?_) fun b=>?_
 ·exfalso;omega
 refine yk<|ys<|yx 2<|yc (rM 256 u) (fun c=>?_) fun c=>?_
 ·exfalso;omega
 refine yk<|ysr<|yp 7 [2] (.p (q:=InR .u8 u) (in8 (by omega) (by omega)) (.i u ((len8S).size) (.q6 (bt len8S u) (.q6 (0+(bt len8S u)) .z))))<|ye<|q9 (yR1 (iX (0+(bt len8S u))) ?_);exact⟨rfl,Up.ch (zm w)⟩
theorem qnf (u:Int)(w:World)(h0:0<=u)(h1:u<=1000):CP 213 [iX u].toArray w (RQ (iX (Int.fdiv (u*78913) (2^min (18:Int).toNat (IntKind.bits .i64)))) w):=by
 refine yA Tryz.func213 rfl<|yx 1<|ysr<|yp 4 [] (.q6 (u*78913) (.p (q:=0<=(18:Int)) (by omega) .z))<|ye<|q9 (yR1 (iX (Int.fdiv (u*78913) (2^min (18:Int).toNat (IntKind.bits .i64)))) ?_);exact⟨rfl,Up.ch (zm w)⟩
theorem qoT (b:Bool)(w:World):CP 214 [.bool b].toArray w (RQ (iX (if b=true then 1 else 0)) w):=by
 refine yA Tryz.func214 rfl<|yx 1<|ys<|yx 1<|yc (rY b) (fun a=>?_) fun a=>?_
 ·refine yx 1<|q9 (rS (yR1 (iX 1) ?_));exact⟨by rw[a];rfl,Up.ch (zm w)⟩
 refine yk<|yx 1<|q9 (yR1 (iX 0) ?_);exact⟨by rw[a];rfl,Up.ch (zm w)⟩
set_option maxRecDepth 100000 in
theorem nd_any (u:Int)(w:World)(hp:qo1 w)(h0:1<=u)(h1:u<=99):CP 210 [.int .u64 u].toArray w (RQ (iX (if u<10 then 1 else 2)) w):=by
 have r:=qcZ len8S u;obtain⟨k,d,hk⟩:∃k:Nat,u=(k:Int)/\k<100:=⟨u.toNat,by omega,by omega⟩
 have a:=d10_bd k hk (by omega);rw[<-d]at a;obtain⟨⟨s,t⟩,f⟩:=a;refine yA Tryz.func210 rfl<|yx 1<|ysr<|yq 1<|yo (yQ (qoS u _ (by omega) (by omega)) fun v b=>?_);have g:=zu (zm w) b iZ;have j:=qgx b hp id;refine yo (yQ (qnf (0+bt len8S u) _ (by omega) (by omega)) fun x c=>?_);have m:=zu g c iZ;have n:=qgx c j id;refine yz 4<|ysr<|yp 6 [] (.i (d10 u) (20) (.l (o:=(0+((d10 u)).toNat*1)) (p_cell n ((d10 u)) (by omega) (by omega)) .z))<|yo (yQ (qoT (decide ((p10 ((d10 u):Int).toNat)<=u)) _) fun y p=>?_);have q:=zu m p iZ;refine yp 9 [] (.q6 ((d10 u)+(if(decide ((p10 ((d10 u):Int).toNat)<=u))=true then 1 else 0)) .z)<|ye<|q9 (yR1 (iX ((d10 u)+(if(decide ((p10 ((d10 u):Int).toNat)<=u))=true then 1 else 0))) ?_);refine⟨congrArg Ending.returned (congrArg (Value.int .i64) ?_),Up.ch q⟩;rw[show(if u<10 then(1:Int)else 2)=if k<10 then 1 else 2 by by_cases h:k<10<;>simp[h]<;>omega];exact f
set_option maxRecDepth 100000 in
theorem qoU (u:Int)(w:World)(h0:0<=u)(h1:u<=99):CP 209 [iX u].toArray w (RQ (.string (qfM u)) w):=by
 have b:smallsS.size=200:=by kernel_rfl
 have c:digS.size=36:=by kernel_rfl
 refine yA Tryz.func209 rfl<|yx 1<|ys<|yx 2<|yc (rL u 10) (fun a=>?_) fun a=>?_
 ·refine ysr<|yp 5 [] (.q6 (u+1) (.j (u+1) ((digS).size) (.j u (((u+1):Int).toNat) .z)))<|ye<|q9 (rS (yR1 (.string ((digS).extract (u:Int).toNat ((u+1):Int).toNat)) ?_));refine⟨congrArg Ending.returned (congrArg Value.string ?_),Up.ch (zm w)⟩;simp only[qfM,a,↓reduceIte]
 refine yk<|ysr<|yp 7 [] (.q6 (u*2) (.q6 (u*2) (.q6 ((u*2)+2) (.j ((u*2)+2) ((smallsS).size) (.j (u*2) ((((u*2)+2):Int).toNat) .z)))))<|ye<|q9 (yR1 (.string ((smallsS).extract ((u*2):Int).toNat (((u*2)+2):Int).toNat)) ?_);refine⟨congrArg Ending.returned (congrArg Value.string ?_),Up.ch (zm w)⟩;simp only[qfM,a,↓reduceIte]
theorem nd1_any (x:Int)(w:World)(hp:qo1 w)(h0:1<=x)(h1:x<=9):CP 210 [.int .u64 x].toArray w (RQ (iX 1) w):=
  (nd_any x w hp h0 (by omega)).mono fun e w' ⟨h,h2⟩=>⟨h.trans (by rw[if_pos (by omega)]),h2⟩
theorem nd2_any (x:Int)(w:World)(hp:qo1 w)(h0:10<=x)(h1:x<=99):CP 210 [.int .u64 x].toArray w (RQ (iX 2) w):=
  (nd_any x w hp (by omega) h1).mono fun e w' ⟨h,h2⟩=>⟨h.trans (by rw[if_neg (by omega)]),h2⟩
set_option maxRecDepth 100000 in
theorem fb1_any (b:Nat)(x:Int)(w:World)(h0:1<=x)(h1:x<=9)(hb:Blk w b [uX 0,uX 0,uX 0,uX 0,uX 0,uX 0,uX 0,uX 0,uX 0,uX 0,uX 0,uX 0,uX 0,uX 0,uX 0,uX 0,uX 0,uX 0,uX 0,uX 0,uX 0,uX 0,uX 0,uX 0] 279):CP 211 [.slice (some ⟨b,1,none⟩) 1 23,.int .u64 x].toArray w fun e w'=>e= .returned (.tuple #[])/\Blk w' b [uX 0,uX (48+x),uX 0,uX 0,uX 0,uX 0,uX 0,uX 0,uX 0,uX 0,uX 0,uX 0,uX 0,uX 0,uX 0,uX 0,uX 0,uX 0,uX 0,uX 0,uX 0,uX 0,uX 0,uX 0] 279/\Ch (· =b) w w':=by
 have l:smallsS.size=200:=by kernel_rfl
 refine yA Tryz.func211 rfl<|yx 3<|ys<|qa<|qV [0,1,4] (f':=[(0,.slice (some ⟨b,1,none⟩) 1 23),(1,.int .u64 x),(4,iX 1)])<|qw (σ:=Nat) (fun k=>[(0,.slice (some ⟨b,1,none⟩) 1 23),(1,.int .u64 x),(4,iX 1)]) (fun k v=>Blk v b [uX 0,uX 0,uX 0,uX 0,uX 0,uX 0,uX 0,uX 0,uX 0,uX 0,uX 0,uX 0,uX 0,uX 0,uX 0,uX 0,uX 0,uX 0,uX 0,uX 0,uX 0,uX 0,uX 0,uX 0] 279/\Ch (fun _=>False) w v) (fun k=>k) 0 rfl ?_ ?_
 ·exact⟨hb,Ch.refl _ _⟩
 intro k m a n o;obtain⟨c,d⟩:=a;have f:=zt (Ch.refl (· =b) w) d eZ;refine ys<|yx 2<|ycf<|qm (eS (qd (qb (nS ?_))));refine ysr<|yp 3 [1] (.p (q:=InR .u32 x) (qgm (by omega) (by omega)) .z)<|ye<|ys<|yx 2<|ycf<|yk<|ys<|yx 2<|ycf<|yk<|yx 2<|yct<|q7<|yp 5 [2,3] (.p (q:=InR .u32 (48+x)) (qgm (by omega) (by omega)) (.p (q:=InR .u8 (48+x)) (in8 (by omega) (by omega)) (.i 0 (1) .z)))<|yo (yT [uX 0,uX (48+x),uX 0,uX 0,uX 0,uX 0,uX 0,uX 0,uX 0,uX 0,uX 0,uX 0,uX 0,uX 0,uX 0,uX 0,uX 0,uX 0,uX 0,uX 0,uX 0,uX 0,uX 0,uX 0] c fun r g h=>?_);have j:=zt f h iZ;refine yE (qW ?_);exact⟨rfl,g,j⟩
set_option maxRecDepth 100000 in
theorem fmt1_any (n:Int)(w:World)(hp:qo1 w)(h0:1<= -n)(h1: -n<=9):CP 208 [iX n,iX 10].toArray w (RQ (.string (qf [45,48+(-n)])) w):=by
 have hx:(IntKind.wrap .u64 (0-(IntKind.wrap .u64 n)))= -n:=by simp[IntKind.wrap,IntKind.bits,IntKind.signed];omega
 refine yA Tryz.func208 rfl<|yx 1<|ys<|yx 2<|yct<|ys<|ysr<|yq 3<|yw [14] (rM 0 n) (fun d=>?_) fun d=>?_
 ·exfalso;omega
 refine yz 6<|ycf<|yk<|ysr<|yo (yN [uX 0,uX 0,uX 0,uX 0,uX 0,uX 0,uX 0,uX 0,uX 0,uX 0,uX 0,uX 0,uX 0,uX 0,uX 0,uX 0,uX 0,uX 0,uX 0,uX 0,uX 0,uX 0,uX 0,uX 0] 279 fun C a f D g b=>?_);have E:=zn f (zm w);have k:=zu (zm w) b iZ;have l:=qgx b hp id;refine ye<|yx 3<|ys<|yx 2<|yc (rL n 0) (fun m=>?_) fun m=>?_
 ·refine q7<|yz 3<|ysr<|yq 1<|yo (yQ (nd1_any (IntKind.wrap .u64 (0-(IntKind.wrap .u64 n))) _ l (by omega) (by omega)) fun F c=>?_);have o:=zu k c iZ;have s:=g.ch c id;refine yz 3<|ysr<|yp 4 [2] (.q6 2 (.j 2 (24) (.j 1 (2) (.p (q:=1<24) (by omega) .z))))<|yo (yQ (fb1_any a (IntKind.wrap .u64 (0-(IntKind.wrap .u64 n))) _ (by omega) (by omega) s) ?_);rintro G ⟨t,u⟩;have v:=zu o u (fun i hi (h:i=a)=>by omega);refine ye<|ys<|yx 2<|yc (rL n 0) (fun x=>?_) fun x=>?_
  ·refine ysr<|yp 1 [] (.i 0 (24) .z)<|yo (yT [uX 45,uX (48+(IntKind.wrap .u64 (0-(IntKind.wrap .u64 n)))),uX 0,uX 0,uX 0,uX 0,uX 0,uX 0,uX 0,uX 0,uX 0,uX 0,uX 0,uX 0,uX 0,uX 0,uX 0,uX 0,uX 0,uX 0,uX 0,uX 0,uX 0,uX 0] t fun H y A=>?_);have B:=zu v A (fun i hi (h:i=a)=>by omega);refine ye<|ysr<|yp 3 [] (.q6 2 (.j 2 (24) .z))<|yo (qE (some ⟨a,0,none⟩) (2:Int).toNat 24 [45,(48+(IntKind.wrap .u64 (0-(IntKind.wrap .u64 n))))] (some 39) (by kernel_rfl) (Rd.pre (ys:=[uX 45,uX (48+(IntKind.wrap .u64 (0-(IntKind.wrap .u64 n))))]) (r:=[uX 0,uX 0,uX 0,uX 0,uX 0,uX 0,uX 0,uX 0,uX 0,uX 0,uX 0,uX 0,uX 0,uX 0,uX 0,uX 0,uX 0,uX 0,uX 0,uX 0,uX 0,uX 0]) y) rfl ?_);refine yz 5<|q9 (rS (rS (yR1 (.string (qf [45,(48+(IntKind.wrap .u64 (0-(IntKind.wrap .u64 n))))])) ?_)));refine⟨?_,Up.ch B⟩;rw[hx]
  exfalso;omega
 exfalso;omega
set_option maxRecDepth 100000 in
theorem fb2_any (b:Nat)(x:Int)(w:World)(h0:10<=x)(h1:x<=99)(hb:Blk w b [uX 0,uX 0,uX 0,uX 0,uX 0,uX 0,uX 0,uX 0,uX 0,uX 0,uX 0,uX 0,uX 0,uX 0,uX 0,uX 0,uX 0,uX 0,uX 0,uX 0,uX 0,uX 0,uX 0,uX 0] 279):CP 211 [.slice (some ⟨b,1,none⟩) 2 23,.int .u64 x].toArray w fun e w'=>e= .returned (.tuple #[])/\Blk w' b [uX 0,uX (bt smallsS ((x % 100)*2)),uX (bt smallsS (((x % 100)*2)+1)),uX 0,uX 0,uX 0,uX 0,uX 0,uX 0,uX 0,uX 0,uX 0,uX 0,uX 0,uX 0,uX 0,uX 0,uX 0,uX 0,uX 0,uX 0,uX 0,uX 0,uX 0] 279/\Ch (· =b) w w':=by
 have t:smallsS.size=200:=by kernel_rfl
 refine yA Tryz.func211 rfl<|yx 3<|ys<|qa<|qV [0,1,4] (f':=[(0,.slice (some ⟨b,1,none⟩) 2 23),(1,.int .u64 x),(4,iX 2)])<|qw (σ:=Nat) (fun k=>[(0,.slice (some ⟨b,1,none⟩) 2 23),(1,.int .u64 x),(4,iX 2)]) (fun k v=>Blk v b [uX 0,uX 0,uX 0,uX 0,uX 0,uX 0,uX 0,uX 0,uX 0,uX 0,uX 0,uX 0,uX 0,uX 0,uX 0,uX 0,uX 0,uX 0,uX 0,uX 0,uX 0,uX 0,uX 0,uX 0] 279/\Ch (fun _=>False) w v) (fun k=>k) 0 rfl ?_ ?_
 ·exact⟨hb,Ch.refl _ _⟩
 intro k u c y A;obtain⟨d,f⟩:=c;have g:=zt (Ch.refl (· =b) w) f eZ;refine ys<|yx 2<|ycf<|qm (eS (qd (qb (nS ?_))));refine ysr<|yp 3 [1] (.p (q:=InR .u32 x) (qgm (by omega) (by omega)) .z)<|ye<|ys<|yx 2<|ycf<|yk<|ys<|yx 2<|yct<|ysr ?_;refine yp 4 [2] (.p (q:=0<=(x:Int)/\0<(100:Int)) (by constructor<;>omega) (.p (q:=InR .u32 ((x % 100)*2)) (qgm (by omega) (by omega)) .z)) ?_;refine ye<|ysr ?_;refine yp 3 [] (.p (q:=0<=(x:Int)/\0<(100:Int)) (by constructor<;>omega) (.p (q:=InR .u32 (x/100)) (qgm (by omega) (by omega)) .z)) ?_;refine ye<|ys<|yD [12,14] fun B C a=>?_;have h:=zt g a eZ;have j:=d.ch a id;refine ydT (uL 0 12) [7] rfl (fun _=>(.q6 1 (.q6 0 (.p (q:=InR .u32 (((x % 100)*2)+1)) (qgm (by omega) (by omega)) (.i (((x % 100)*2)+1) ((smallsS).size) (.i ((x % 100)*2) ((smallsS).size) (.i 1 (2) .z)))))))<|yK 12 (yT [uX 0,uX 0,uX (bt smallsS (((x % 100)*2)+1)),uX 0,uX 0,uX 0,uX 0,uX 0,uX 0,uX 0,uX 0,uX 0,uX 0,uX 0,uX 0,uX 0,uX 0,uX 0,uX 0,uX 0,uX 0,uX 0,uX 0,uX 0] j fun D l m=>?_);have n:=zt h m iZ;refine q8<|yd [13] [] (.i 0 (2) .z)<|yK 14 (yT [uX 0,uX (bt smallsS ((x % 100)*2)),uX (bt smallsS (((x % 100)*2)+1)),uX 0,uX 0,uX 0,uX 0,uX 0,uX 0,uX 0,uX 0,uX 0,uX 0,uX 0,uX 0,uX 0,uX 0,uX 0,uX 0,uX 0,uX 0,uX 0,uX 0,uX 0] l fun E o r=>?_);have s:=zt n r iZ;refine q8<|yDe (nS ?_)
 refine q7<|yp 3 [] (.q6 0 .z)<|ye<|yx 2<|ycf<|qo (qW ?_);exact⟨rfl,o,s⟩
set_option maxRecDepth 100000 in
theorem fmt2_any (n:Int)(w:World)(hp:qo1 w)(h0:10<= -n)(h1: -n<=99):CP 208 [iX n,iX 10].toArray w (RQ (.string (qf [45,bt smallsS (((-n)% 100)*2),bt smallsS ((((-n)% 100)*2)+1)])) w):=by
 have hx:(IntKind.wrap .u64 (0-(IntKind.wrap .u64 n)))= -n:=by simp[IntKind.wrap,IntKind.bits,IntKind.signed];omega
 refine yA Tryz.func208 rfl<|yx 1<|ys<|yx 2<|yct<|ys<|ysr<|yq 3<|yw [14] (rM 0 n) (fun d=>?_) fun d=>?_
 ·exfalso;omega
 refine yz 6<|ycf<|yk<|ysr<|yo (yN [uX 0,uX 0,uX 0,uX 0,uX 0,uX 0,uX 0,uX 0,uX 0,uX 0,uX 0,uX 0,uX 0,uX 0,uX 0,uX 0,uX 0,uX 0,uX 0,uX 0,uX 0,uX 0,uX 0,uX 0] 279 fun C a f D g b=>?_);have E:=zn f (zm w);have k:=zu (zm w) b iZ;have l:=qgx b hp id;refine ye<|yx 3<|ys<|yx 2<|yc (rL n 0) (fun m=>?_) fun m=>?_
 ·refine q7<|yz 3<|ysr<|yq 1<|yo (yQ (nd2_any (IntKind.wrap .u64 (0-(IntKind.wrap .u64 n))) _ l (by omega) (by omega)) fun F c=>?_);have o:=zu k c iZ;have s:=g.ch c id;refine yz 3<|ysr<|yp 4 [2] (.q6 3 (.j 3 (24) (.j 1 (3) (.p (q:=1<24) (by omega) .z))))<|yo (yQ (fb2_any a (IntKind.wrap .u64 (0-(IntKind.wrap .u64 n))) _ (by omega) (by omega) s) ?_);rintro G ⟨t,u⟩;have v:=zu o u (fun i hi (h:i=a)=>by omega);refine ye<|ys<|yx 2<|yc (rL n 0) (fun x=>?_) fun x=>?_
  ·refine ysr<|yp 1 [] (.i 0 (24) .z)<|yo (yT [uX 45,uX (bt smallsS (((IntKind.wrap .u64 (0-(IntKind.wrap .u64 n)))% 100)*2)),uX (bt smallsS ((((IntKind.wrap .u64 (0-(IntKind.wrap .u64 n)))% 100)*2)+1)),uX 0,uX 0,uX 0,uX 0,uX 0,uX 0,uX 0,uX 0,uX 0,uX 0,uX 0,uX 0,uX 0,uX 0,uX 0,uX 0,uX 0,uX 0,uX 0,uX 0,uX 0] t fun H y A=>?_);have B:=zu v A (fun i hi (h:i=a)=>by omega);refine ye<|ysr<|yp 3 [] (.q6 3 (.j 3 (24) .z))<|yo (qE (some ⟨a,0,none⟩) (3:Int).toNat 24 [45,(bt smallsS (((IntKind.wrap .u64 (0-(IntKind.wrap .u64 n)))% 100)*2)),(bt smallsS ((((IntKind.wrap .u64 (0-(IntKind.wrap .u64 n)))% 100)*2)+1))] (some 39) (by kernel_rfl) (Rd.pre (ys:=[uX 45,uX (bt smallsS (((IntKind.wrap .u64 (0-(IntKind.wrap .u64 n)))% 100)*2)),uX (bt smallsS ((((IntKind.wrap .u64 (0-(IntKind.wrap .u64 n)))% 100)*2)+1))]) (r:=[uX 0,uX 0,uX 0,uX 0,uX 0,uX 0,uX 0,uX 0,uX 0,uX 0,uX 0,uX 0,uX 0,uX 0,uX 0,uX 0,uX 0,uX 0,uX 0,uX 0,uX 0]) y) rfl ?_);refine yz 5<|q9 (rS (rS (yR1 (.string (qf [45,(bt smallsS (((IntKind.wrap .u64 (0-(IntKind.wrap .u64 n)))% 100)*2)),(bt smallsS ((((IntKind.wrap .u64 (0-(IntKind.wrap .u64 n)))% 100)*2)+1))])) ?_)));refine⟨?_,Up.ch B⟩;rw[hx]
  exfalso;omega
 exfalso;omega
set_option maxRecDepth 100000 in
theorem fmt0_any (n:Int)(w:World)(h0:0<=n)(h1:n<=99):CP 208 [iX n,iX 10].toArray w (RQ (.string (qfM n)) w):=by
 refine yA Tryz.func208 rfl<|yx 1<|ys<|yx 2<|yct<|ys<|ysr<|yq 3<|yw [14] (rM 0 n) (fun a=>?_) fun a=>?_
 ·refine yz 6<|yc (rL n 100) (fun b=>?_) fun b=>?_
  ·refine ysr<|yq 1<|yo (yQ (qoU n _ h0 h1) fun f c=>?_);have d:=zu (zm w) c iZ;refine yz 3<|q9 (rS (rS (yR1 (.string (qfM n)) ?_)));exact⟨rfl,Up.ch d⟩
  exfalso;omega
 exfalso;omega
def qcM (n:Int):ByteArray:=if 0<=n then qfM n else if-9<=n then qf [45,48+(-n)]else qf [45,bt smallsS (((-n)% 100)*2),bt smallsS ((((-n)% 100)*2)+1)]
theorem fmt_any (n:Int)(w:World)(hp:qo1 w)(h0: -99<=n)(h1:n<=99):CP 208 [iX n,iX 10].toArray w (RQ (.string (qcM n)) w):=by
 unfold qcM;by_cases h:0<=n
 ·rw[if_pos h];exact fmt0_any n w h h1
 rw[if_neg h];by_cases a: -9<=n
 ·rw[if_pos a];exact fmt1_any n w hp (by omega) (by omega)
 rw[if_neg a];exact fmt2_any n w hp (by omega) (by omega)
theorem qoV (n:Int)(w:World)(hp:qo1 w)(h0: -99<=n)(h1:n<=99):CP 207 [iX n].toArray w (RQ (.string (qcM n)) w):=by
 refine yA Tryz.func207 rfl<|yx 1<|ysr<|yq 1<|yo (yQ (fmt_any n _ hp h0 h1) fun c a=>?_);have b:=zu (zm w) a iZ;refine yz 3<|q9 (yR1 (.string (qcM n)) ?_);exact⟨rfl,Up.ch b⟩
theorem qg8 (n:Int)(w:World)(hp:qo1 w)(h0: -99<=n)(h1:n<=99):CP 206 [iX n].toArray w (RQ (.string (qcM n)) w):=by
 refine yA Tryz.func206 rfl<|yx 1<|ysr<|yq 1<|yo (yQ (qoV n _ hp h0 h1) fun c a=>?_);have b:=zu (zm w) a iZ;refine yz 3<|q9 (yR1 (.string (qcM n)) ?_);exact⟨rfl,Up.ch b⟩
structure LT (w:World):Prop where
 tb:qai w
 ut:qcD w
 pt:qo1 w
theorem qaW {w w':World}{B:Nat->Prop}(h:Ch B w w')(hT:LT w)(hB:∀b,B b->gTop<=b):LT w':=
 have k:∀b,b<gTop-> ¬B b:=fun b hb h=>by have:=hB b h;omega
 ⟨qi h hT.tb (k _ g_lt.1) (k _ g_lt.2),qaf h hT.ut (k _ u_lt.1) (k _ u_lt.2),qgx h hT.pt (k _ (by decide))⟩
def qe8 (T:TS)(s:ByteArray):TS:=if(T.reply.size:Int)+(s.size:Int)<=400 then{T with reply:=T.reply++s}else T
def qeM (T:TS):ByteArray:=(qcM ((if T.origin=true then T.cursor.y-T.top else T.cursor.y)+1)++⟨#[59]⟩)++qcM (T.cursor.x+1)
def qcN (T:TS)(c k:Int):TS:=
 if c=103/\k=0 then{T with tabs:=fun i=>if i=T.cursor.x.toNat then false else T.tabs i}
 else if c=103/\k=3 then{T with tabs:=fun _=>false}
 else if(c=104\/c=108)/\k=4 then{T with insert:=((c:Int)==104)}
 else if c=110/\k=5 then qe8 T ⟨#[27,91,48,110]⟩
 else if c=110/\k=6 then qe8 T ((⟨#[27,91]⟩++qeM T)++⟨#[82]⟩)
 else if c=99/\k=0 then qe8 T ⟨#[27,91,63,54,99]⟩
 else T
def qcO (T:TS)(y a b:Int)(s:Sty):TS:={T with grid:=qb3 T.grid y a b s}
def qbf (T:TS)(k x y:Int)(s:Sty)(i:Int):TS:=
 if k=2\/(k=0/\y<i)\/(k=1/\i<y)then qcO T i 0 T.grid.w s
 else if k=0/\i=y then qcO T i x T.grid.w s
 else if k=1/\i=y then qcO T i 0 (x+1) s
 else T
def qeN (T:TS)(k x y:Int)(s:Sty)(a:Int):Nat->TS
 |0=>T
 |j+1=>qbf (qeN T k x y s a j) k x y s (a+(j:Int))
def qgy (T:TS)(k a b:Int):TS:=qeN T k T.cursor.x T.cursor.y T.cursor.sty a (b-a).toNat
def qbo (T:TS)(c n:Int)(l:List Int):TS:=
 if c=64 then{T with grid:=qhk T.grid T.cursor.x T.cursor.y n T.cursor.sty}
 else if c=80 then{T with grid:=qil T.grid T.cursor.x T.cursor.y n T.cursor.sty}
 else if c=88 then{T with grid:=qb3 T.grid T.cursor.y T.cursor.x (T.cursor.x+n) T.cursor.sty}
 else if c=75 then qgy T (qaU l) T.cursor.y (T.cursor.y+1)
 else if c=74 then(if qaU l=3 then qgy {T with back:=[]} (qaU l) 0 T.grid.h else qgy T (qaU l) 0 T.grid.h)
 else if c=76 then(if T.top<=T.cursor.y/\T.cursor.y<T.bot then{T with grid:=qeE T.grid T.cursor.y T.bot n T.cursor.sty}else T)
 else if c=77 then(if T.top<=T.cursor.y/\T.cursor.y<T.bot then{T with grid:=upG T.grid T.cursor.y T.bot n T.cursor.sty}else T)
 else if c=83 then qbx T n
 else if c=84 then{T with grid:=qeE T.grid T.top T.bot n T.cursor.sty}
 else qcN T c (qaU l)
def qax (T:TS)(c:Int)(l:List Int):TS:=
 if c=65 then qe4 T T.cursor.x (max (T.cursor.y-qr l 0) (if T.top<=T.cursor.y then T.top else 0))
 else if c=66\/c=101 then qe4 T T.cursor.x (min (T.cursor.y+qr l 0) ((if T.cursor.y<T.bot then T.bot else T.grid.h)-1))
 else if c=67\/c=97 then qe4 T (T.cursor.x+qr l 0) T.cursor.y
 else if c=68 then qe4 T (T.cursor.x-qr l 0) T.cursor.y
 else if c=71\/c=96 then qe4 T (qr l 0-1) T.cursor.y
 else if c=100 then qeG T (T.cursor.x+1) (qr l 0)
 else if c=72\/c=102 then qeG T (qr l 1) (qr l 0)
 else if c=109 then{T with cursor:=⟨T.cursor.x,T.cursor.y,T.cursor.late,qcu T.cursor.sty l⟩}
 else if c=114 then
  (if qr l 0<(if 1<(l.length:Int)/\0<l.getD 1 0 then min (l.getD 1 0) T.grid.h else T.grid.h)then
   qeG {T with top:=qr l 0-1,bot:=(if 1<(l.length:Int)/\0<l.getD 1 0 then min (l.getD 1 0) T.grid.h else T.grid.h)} 1 1 else T)
 else qbo T c (qr l 0) l
def qed (G:Gr):Nat->Gr
 |0=>G
 |k+1=>qb3 (qed G k) (k:Int) 0 (qed G k).w qdd
def qkW (T:TS)(b:Bool):TS:=
 if(b==T.alt)=true then T
 else if b=true then{T with alt:=b,grid:=qed T.other T.other.h.toNat,other:=T.grid,cursor:=T.cursor,away:=T.cursor}
 else{T with alt:=b,grid:=T.other,other:=T.grid,cursor:=T.away,away:=T.cursor}
def qbp (T:TS)(n:Int)(b:Bool):TS:=
 if n=6 then qeG {T with origin:=b} 1 1
 else if n=7 then{T with wrap:=b,cursor:=⟨T.cursor.x,T.cursor.y,T.cursor.late&&b,T.cursor.sty⟩}
 else if n=25 then{T with hidden:= !b}
 else if n=1049 then qkW T b
 else T
def qlU (T:TS)(a:Ac):TS:=
 if(a.marks.toList==ByteArray.empty.toList)=true then qax T a.last a.params
 else if(a.marks.toList==(⟨#[63]⟩:ByteArray).toList)=true/\(a.last=104\/a.last=108)then a.params.foldl (fun T n=>qbp T n ((a.last:Int)==104)) T
 else T
def qix (k:Nat)(i:Nat):Bool:=decide (i % 8=0/\8<=i/\i<8+8*k)
def startT (T:TS)(w h:Int):TS:=
 {grid:=qkF w h,other:=qkF w h,cursor:=cur0,saved:=cur0,away:=cur0,top:=0,bot:=qj h,tabs:=qix 7,wrap:=true,origin:=false,insert:=false,hidden:=false,draw0:=false,draw1:=false,shift:=false,alt:=false,title:=ByteArray.empty,back:=[],parser:=T.parser,reply:=T.reply}
def qhd (T:TS)(a:Ac):TS:=
 if(a.marks.toList==(⟨#[40]⟩:ByteArray).toList)=true then
  (if a.last=48\/a.last=66 then{T with draw0:=((a.last:Int)==48)}else T)
 else if(a.marks.toList==(⟨#[41]⟩:ByteArray).toList)=true then
  (if a.last=48\/a.last=66 then{T with draw1:=((a.last:Int)==48)}else T)
 else if(a.marks.toList==ByteArray.empty.toList)=false then T
 else if a.last=55 then{T with saved:=T.cursor}
 else if a.last=56 then{T with cursor:=T.saved}
 else if a.last=68 then qbi (qbv T) false
 else if a.last=69 then qe4 (qbv T) 0 (qbv T).cursor.y
 else if a.last=77 then qbi (upT T) false
 else if a.last=72 then{T with tabs:=fun i=>if i=T.cursor.x.toNat then true else T.tabs i}
 else if a.last=99 then startT T T.grid.w T.grid.h
 else T
def qlV (T:TS)(a:Ac):TS:=
 if 2<=(a.text.size:Int)/\((((a.text).extract 0 (2:Int).toNat).toList==(⟨#[48,59]⟩:ByteArray).toList)=true\/(((a.text).extract 0 (2:Int).toNat).toList==(⟨#[50,59]⟩:ByteArray).toList)=true)then{T with title:=(a.text).extract (2:Int).toNat (a.text).size}else T
def qen (T:TS)(a:Ac):TS:=
 if a.kind=0 then qeH T a.rune
 else if a.kind=1 then qdp T a.last
 else if a.kind=2 then qhd T a
 else if a.kind=3 then qlU T a
 else if a.kind=4 then qlV T a
 else T
section
variable {W H:Int}{T:TS}
theorem Lim.flags (h:Lim W H T){T':TS}(e1:T'.grid=T.grid)(e2:T'.other=T.other)(e3:T'.cursor=T.cursor)(e4:T'.saved=T.saved)(e5:T'.away=T.away)(e6:T'.top=T.top)(e7:T'.bot=T.bot)(e8:T'.back=T.back)(e9:T'.reply=T.reply):Lim W H T':=
 ⟨h.wb,h.hb,by rw[e1];exact h.g1,by rw[e2];exact h.g2,by rw[e3];exact h.cu,by rw[e4];exact h.sa,by rw[e5];exact h.aw,by rw[e6,e7];exact h.tb,by rw[e8];exact h.bk,by rw[e9];exact h.rp⟩
theorem TermIn.swap {w w':World}{t g o:Nat}{ba:Option Addr}{bn bc:Nat}{pa:Option Addr}{pn pc:Nat}{T T':TS}{F F1 F2 FB FP:Nat->Prop}(h:TermIn w t g o ba bn bc pa pn pc T F F1 F2 FB FP)(hc:Ch (fun j=>j=t) w w')
  (hb:Blk w' t (T'.vals o g (.slice ba bn bc) (.slice pa pn pc)) qar) (hg:T'.grid=T.other) (ho:T'.other=T.grid) (hk:T'.back=T.back) (hp:T'.parser.params=T.parser.params):TermIn w' t o g ba bn bc pa pn pc T' F F2 F1 FB FP:=by
 obtain⟨a,hL,hl⟩:=h.bk;exact
 {blk:=hb
  g1:=by rw[hg];exact h.g2.ch hc fun b hb e=>h.t2 (e▸hb)
  g2:=by rw[ho];exact h.g1.ch hc fun b hb e=>h.t1 (e▸hb)
  bk:=⟨a,hL.ch hc fun b hb e=>h.tB (e▸hb),by rw[hk];exact hl⟩
  bcap:=h.bcap
  ps:=by rw[hp];exact⟨h.ps.1.ch hc fun ad e c=>h.tP (c▸h.ps.2.2.2 ad e),h.ps.2⟩
  pz:=h.pz
  bz:=h.bz
  t1:=h.t2,t2:=h.t1,tB:=h.tB,tP:=h.tP
  a12:=fun b d f=>h.a12 b f d
  a1B:=h.a2B,a2B:=h.a1B,a1P:=h.a2P,a2P:=h.a1P
  inF:=⟨h.inF.1,h.inF.2.2.1,h.inF.2.1,h.inF.2.2.2.1,h.inF.2.2.2.2⟩
  lt:=fun b hb=>ic (h.lt b hb) hc.size
  hi:=h.hi}
def qiy (T:TS)(k:Nat):TS:={T with grid:=qed T.grid k}
theorem TermIn.nilBack {w w':World}{t g o:Nat}{ba:Option Addr}{bn bc:Nat}{pa:Option Addr}{pn pc:Nat}{T:TS}{F F1 F2 FB FP:Nat->Prop}(h:TermIn w t g o ba bn bc pa pn pc T F F1 F2 FB FP)(hc:Ch (fun j=>j=t) w w')
  (hb:Blk w' t (({T with back:=[]}:TS).vals g o (.slice none 0 0) (.slice pa pn pc)) qar):TermIn w' t g o none 0 0 pa pn pc ({T with back:=[]}:TS) F F1 F2 FB FP:=
 {h with
  blk:=hb
  g1:=h.g1.ch hc fun b hb e=>h.t1 (e▸hb)
  g2:=h.g2.ch hc fun b hb e=>h.t2 (e▸hb)
  bk:=⟨[],⟨Rd.nil _ _,rfl,(fun x hx=>by cases hx),(fun x hx=>by cases hx),(fun ad e=>by cases e),fun b hb=>ic (h.lt b (h.inF.2.2.2.1 b hb)) hc.size,fun b hb=>h.hi b (h.inF.2.2.2.1 b hb)⟩,rfl⟩
  bcap:=⟨iE _,fun _=>rfl⟩
  bz:= .inl rfl
  ps:=⟨h.ps.1.ch hc fun ad e e2=>h.tP (e2▸h.ps.2.2.2 ad e),h.ps.2⟩
  lt:=fun b hb=>ic (h.lt b hb) hc.size}
theorem qI {P:TS->Prop}{c:Prop}[Decidable c]{a b:TS}(h1:c->P a)(h2:¬c->P b):P (if c then a else b):=by
 by_cases h:c
 ·rw[if_pos h];exact h1 h
 ·rw[if_neg h];exact h2 h
theorem qgz (h:Lim W H T)(s:ByteArray):Lim W H (qe8 T s):=by
 unfold qe8;split
 ·exact{h with rp:=by show(T.reply++s).size<=400;rw[iT];omega}
 ·exact h
theorem qlW (h:Lim W H T)(c k:Int):Lim W H (qcN T c k):=by
 unfold qcN;refine qI (fun _=>h.flags rfl rfl rfl rfl rfl rfl rfl rfl rfl) fun _=>?_;refine qI (fun _=>h.flags rfl rfl rfl rfl rfl rfl rfl rfl rfl) fun _=>?_;refine qI (fun _=>h.flags rfl rfl rfl rfl rfl rfl rfl rfl rfl) fun _=>?_;refine qI (fun _=>qgz h _) fun _=>?_;refine qI (fun _=>qgz h _) fun _=>?_;refine qI (fun _=>qgz h _) fun _=>h
theorem qoW (h:Lim W H T)(y a b:Int)(s:Sty):Lim W H (qcO T y a b s):=h.grid (qbM _ _ _ _ _)
theorem qng (h:Lim W H T)(k x y:Int)(s:Sty)(i:Int):Lim W H (qbf T k x y s i):=by
 unfold qbf
 repeat' split
 all_goals first|exact qoW h _ _ _ _|exact h
theorem qhI (h:Lim W H T)(k x y:Int)(s:Sty)(a:Int)(j:Nat):Lim W H (qeN T k x y s a j):=by
 induction j with
 |zero=>exact h
 |succ j ih=>exact qng ih _ _ _ _ _
theorem qgA (h:Lim W H T)(k a b:Int):Lim W H (qgy T k a b):=qhI h _ _ _ _ _ _
theorem lim_edit (h:Lim W H T)(c n:Int)(l:List Int):Lim W H (qbo T c n l):=by
 have hd:∀a b n s,Lim W H {T with grid:=qeE T.grid a b n s}:=fun a b n s=>h.grid (G:=qeE T.grid a b n s) ⟨rfl,rfl⟩;have hu:∀a b n s,Lim W H {T with grid:=upG T.grid a b n s}:=fun a b n s=>h.grid (G:=upG T.grid a b n s) ⟨rfl,rfl⟩;unfold qbo;refine qI (fun _=>h.grid (qis _ _ _ _ _)) fun _=>?_;refine qI (fun _=>h.grid (qoG _ _ _ _ _)) fun _=>?_;refine qI (fun _=>h.grid (qbM _ _ _ _ _)) fun _=>?_;refine qI (fun _=>qgA h _ _ _) fun _=>?_;refine qI (fun _=>qI (fun _=>qgA (T:={T with back:=[]}) {h with bk:=by simp} _ _ _) fun _=>qgA h _ _ _) fun _=>?_;refine qI (fun _=>qI (fun _=>hd _ _ _ _) fun _=>h) fun _=>?_;refine qI (fun _=>qI (fun _=>hu _ _ _ _) fun _=>h) fun _=>?_;refine qI (fun _=>qfm h _) fun _=>?_;refine qI (fun _=>hd _ _ _ _) fun _=>?_;exact qlW h _ _
theorem qdS (l:List Int)(i:Nat):1<=qr l i:=by unfold qr;split<;>omega
theorem qjH {l:List Int}(h:∀x∈l,0<=x/\x<=9999)(i:Nat):qr l i<=9999:=by
 unfold qr;have:=qaM h (by decide) i;split<;>omega
theorem qhJ (h:Lim W H T){n e:Int}(hn:1<=n/\n<e/\e<=H):Lim W H {T with top:=n-1,bot:=e}:=
 {h with tb:=⟨by show(0:Int)<=n-1;omega,by show n-1<e;omega,hn.2.2⟩}
theorem qoX (h:Lim W H T)(c:Int)(l:List Int):Lim W H (qax T c l):=by
 have b:=h.g1;have hp:=qdS l 0;unfold qax;refine qI (fun _=>qc9 h _ _) fun _=>?_;refine qI (fun _=>qc9 h _ _) fun _=>?_;refine qI (fun _=>qc9 h _ _) fun _=>?_;refine qI (fun _=>qc9 h _ _) fun _=>?_;refine qI (fun _=>qc9 h _ _) fun _=>?_;refine qI (fun _=>qg5 h _ _) fun _=>?_;refine qI (fun _=>qg5 h _ _) fun _=>?_;refine qI (fun _=>h.cursor h.cu) fun _=>?_;refine qI (fun _=>qI (fun a=>qg5 (qhJ h ⟨hp,a,?_⟩) _ _) fun _=>h) fun _=>lim_edit h _ _ _;split<;>omega
theorem qgB (G:Gr)(k:Nat):(qed G k).w=G.w/\(qed G k).h=G.h:=by
 induction k with
 |zero=>exact⟨rfl,rfl⟩
 |succ k ih=>exact⟨(qbM _ _ _ _ _).1.trans ih.1,(qbM _ _ _ _ _).2.trans ih.2⟩
theorem qnh (h:Lim W H T)(k:Nat):Lim W H (qiy T k):=h.grid (qgB _ _)
theorem qlX (h:Lim W H T)(b:Bool):Lim W H (qkW T b):=by
 have c:=h.g1;have a:=h.g2;unfold qkW;split
 ·exact h
 ·split
  ·exact⟨h.wb,h.hb,⟨(qgB _ _).1.trans a.1,(qgB _ _).2.trans a.2⟩,c,h.cu,h.sa,h.cu,h.tb,h.bk,h.rp⟩
  ·exact⟨h.wb,h.hb,a,c,h.aw,h.sa,h.cu,h.tb,h.bk,h.rp⟩
theorem lim_mode (h:Lim W H T)(n:Int)(b:Bool):Lim W H (qbp T n b):=by
 unfold qbp;split
 ·exact qg5 (T:={T with origin:=b}) (h.flags rfl rfl rfl rfl rfl rfl rfl rfl rfl) _ _
 split
 ·exact{h.cursor (c:=⟨T.cursor.x,T.cursor.y,T.cursor.late&&b,T.cursor.sty⟩) h.cu with}
 split
 ·exact h.flags rfl rfl rfl rfl rfl rfl rfl rfl rfl
 split
 ·exact qlX h b
 ·exact h
theorem qdr (h:Lim W H T)(l:List Int)(b:Bool):Lim W H (l.foldl (fun T n=>qbp T n b) T):=by
 induction l generalizing T with
 |nil=>exact h
 |cons n l ih=>exact ih (lim_mode h n b)
theorem lim_csi (h:Lim W H T)(a:Ac):Lim W H (qlU T a):=by
 unfold qlU;split
 ·exact qoX h _ _
 split
 ·exact qdr h _ _
 ·exact h
theorem qg9 {n:Int}(h:1<=n/\n<=60):qj n=n:=by unfold qj;omega
theorem qeO (T:TS)(w h:Int)(hr:T.reply.size<=400):Lim (qj w) (qj h) (startT T w h):=by
 have a:1<=qj w/\qj w<=60:=by unfold qj;omega
 have b:1<=qj h/\qj h<=60:=by unfold qj;omega
 have hc:(0<=cur0.x/\cur0.x<qj w)/\0<=cur0.y/\cur0.y<qj h:=⟨⟨by decide,by show(0:Int)<_;omega⟩,by decide,by show(0:Int)<_;omega⟩
 exact⟨a,b,⟨rfl,rfl⟩,⟨rfl,rfl⟩,hc,hc,hc,⟨by show(0:Int)<=0;omega,by show(0:Int)<qj h;omega,by show qj h<=qj h;omega⟩,by show([]:List (List Cel)).length<=20;simp,hr⟩
theorem lim_esc (h:Lim W H T)(a:Ac):Lim W H (qhd T a):=by
 unfold qhd;refine qI (fun _=>qI (fun _=>h.flags rfl rfl rfl rfl rfl rfl rfl rfl rfl) fun _=>h) fun _=>?_;refine qI (fun _=>qI (fun _=>h.flags rfl rfl rfl rfl rfl rfl rfl rfl rfl) fun _=>h) fun _=>?_;refine qI (fun _=>h) fun _=>?_;refine qI (fun _=>{h with sa:=h.cu}) fun _=>?_;refine qI (fun _=>{h with cu:=h.sa}) fun _=>?_;refine qI (fun _=>qit (qbN h) _) fun _=>?_;refine qI (fun _=>qc9 (qbN h) _ _) fun _=>?_;refine qI (fun _=>qit (lim_up h) _) fun _=>?_;refine qI (fun _=>h.flags rfl rfl rfl rfl rfl rfl rfl rfl rfl) fun _=>?_;refine qI (fun _=>?_) fun _=>h;have:=qeO T T.grid.w T.grid.h h.rp;rw[h.g1.1,h.g1.2,qg9 h.wb,qg9 h.hb]at this;rw[h.g1.1,h.g1.2];exact this
theorem lim_osc (h:Lim W H T)(a:Ac):Lim W H (qlV T a):=by
 unfold qlV;split
 ·exact h.flags rfl rfl rfl rfl rfl rfl rfl rfl rfl
 ·exact h
theorem qoY (h:Lim W H T)(a:Ac):Lim W H (qen T a):=by
 unfold qen;split
 ·exact qjA h _
 split
 ·exact qlR h _
 split
 ·exact lim_esc h a
 split
 ·exact lim_csi h a
 split
 ·exact lim_osc h a
 ·exact h
end
section
variable {w0 w:World}{F0:Nat->Prop}{l:List Asn}{x:Option (Nat×Nat)}{t:Nat}{T:TS}
theorem Sep.lt (h:Sep w0 F0 w l)(hg:Gz w0 F0)(hT:LT w0):LT w:=qaW h.ch hT fun b hb=>(hg.lo b hb).1
theorem Sep.ints {k:IntKind}{ao:Option Nat}{an cc:Nat}{ps:List Int}(h:Sep w0 F0 w l)(hV:IntsAt w0 k ao an cc ps (fun b=> ¬F0 b/\b<w0.heap.size)):IntsAt w k ao an cc ps (fun b=> ¬F0 b/\b<w0.heap.size):=hV.ch h.ch fun _ hb h=>hb.1 h
theorem Sep.intsF {k:IntKind}{ao:Option Nat}{an cc:Nat}{ps:List Int}{F:Nat->Prop}(h:Sep w0 F0 w l)(hV:IntsAt w0 k ao an cc ps (fun b=> ¬F0 b/\b<w0.heap.size))(hF:∀b,F b->(F0 b\/w0.heap.size<=b)/\b<w.heap.size):IntsAt w k ao an cc ps (fun b=> ¬F b/\b<w.heap.size):=
 (h.ints hV).mono fun b hb=>⟨fun hf=>(hF b hf).1.elim hb.1 fun h2=>by omega,ic hb.2 h.ch.size⟩
end
section
variable {P:Program}{N:Nat}{ops:Array Oper}{Q:Exit->Act->World->Prop}{f:Fr}{k:Nat}{K:Act->World->Prop}{w0 w:World}{F0:Nat->Prop}{l:List Asn}{x:Option (Nat×Nat)}{t:Nat}{T:TS}
theorem zNil (i:Nat)(h:Sep w0 F0 w l)(hK:∀w',Sep w0 F0 w' (l.set i (tmA x t {T with back:=[]}))-> ∀a',Has N (pushd (dO ops k) undef f) a'->K a' w')
  (hs:storeAt P N ops f k=some (t,97,[.slice none 0 0],dO ops k):=by kernel_rfl) (hi:l[i]? =some (tmA x t T):=by rfl):∀a,Has N f a->wpOp P ops Q k K a w:=by
 obtain⟨F,b,c,d⟩:=h.ex;obtain⟨g,o,ba,bn,bc,pa,pn,pc,e,j,FB,FP,hI,hx⟩:=b i _ hi;refine qaL _ _ _ hs hI.blk (by rw[qch];exact qc2 rfl) fun w' hB hc=>hK w' (h.upd hi F b c d ?_ (hI.cht hc));have hB':Blk w' t (TS.vals {T with back:=[]} g o (.slice none 0 0) (.slice pa pn pc)) qar:=hB.to (by kernel_rfl);exact⟨g,o,_,_,_,_,_,_,_,_,_,_,(hI.nilBack hc hB').mono (fun _ h=> .inl h) (hI.moreOk hc.size),hx⟩
end
theorem qiz {w:World}{t:Nat}{W H:Int}{T:TS}{F:Nat->Prop}(hA0:TermAt w t T F)(hT:LT w)(hL:Lim W H T)(x:ByteArray)(hx:x.size<=1000):CP 204 [pX t,.string x].toArray w fun e w'=>e= .returned (.tuple #[])/\TermAt w' t (qe8 T x) (more F w w')/\Ch F w w':=by
 have h:=Sep.startT hA0;have hg:=Gz.of hA0;have hM:=hL;have b:=hM.all;refine yA Tryz.func204 rfl<|ysr<|yp 9 [] (.l (h.tc 0 107) (.q6 (((T.reply).size:Int)+((x).size:Int)) .z))<|ye<|yc (rM (((T.reply).size:Int)+((x).size:Int)) 400) (fun a=>?_) fun a=>?_
 ·refine q7<|yp 8 [] (.l (h.tc 0 107) (.p (q:=(T.reply).size+(x).size<=9223372036854775807) (by omega) .z))<|yo (zT 0 ({T with reply:=(T.reply++x)}:TS) h fun u h=>?_);refine yE (qW ?_);refine h.tfin hg ?_;simp[qe8, *]
 refine qo (qW ?_);refine h.tfin hg ?_;simp[qe8, *]
theorem qjI:(⟨#[59]⟩:ByteArray).size=1:=rfl
theorem qni (n:Int):(qfM n).size<=2:=by
 unfold qfM;split
 ·rw[k8];omega
 rw[k8];omega
theorem qds (n:Int):(qcM n).size<=3:=by
 have d:∀a b:Int,(qf [a,b]).size=2:=fun _ _=>rfl;have e:∀a b c:Int,(qf [a,b,c]).size=3:=fun _ _ _=>rfl;have:=qni n;unfold qcM;split
 ·omega
 split
 ·rw[d];omega
 rw[e];omega
theorem qoZ {w:World}{t g o:Nat}{ba:Option Addr}{bn bc:Nat}{pa:Option Addr}{pn pc:Nat}{T:TS}{F F1 F2 FB FP:Nat->Prop}(hI:TermIn w t g o ba bn bc pa pn pc T F F1 F2 FB FP){W H:Int}(hT:LT w)(hL:Lim W H T):CP 205 [pX t].toArray w (RQ (.string (qeM T)) w):=by
 have j:=hI.g1.head;obtain⟨gv,j⟩:=j;obtain⟨⟨L,M⟩,⟨N,O⟩,P,Q⟩:=hI.g1.ok;have R:Df t g:=fun e=>hI.t1 (e▸hI.g1.inF);have S:=hI.inF.1;have n:=hL;have U:=n.all;have V:=qds (T.cursor.y+1);have X:=qds (T.cursor.y-T.top+1);have Y:=qds (T.cursor.x+1);refine yA Tryz.func205 rfl<|yx 1<|ysr<|yp 6 [] (.l (hI.blk.c 3) .z)<|ye<|ys<|ysr<|yp 4 [] (.l (hI.blk.c 89) .z)<|ye<|yc (rY T.origin) (fun a=>?_) fun a=>?_
 ·refine q7<|yp 7 [] (.l (hI.blk.c 26) (.q6 (T.cursor.y-T.top) .z))<|ye<|ys<|yDC [10] fun Z a0 b=>?_;have r:=zu (zm w) b iZ;have s:=hI.blk.ch b id;have k:=qaW b hT (fun _ h=>h.elim);refine ydC [0,1,4,5,6,7,8,9] [] (fun u hu=>(.q6 ((T.cursor.y-T.top)+1) (.l (qg hu (s.c 2) id) (.q6 (T.cursor.x+1) .z))))<|yH 2 (yQ (qg8 ((T.cursor.y-T.top)+1) _ k.pt (by omega) (by omega)) fun a1 d=>?_);have v:=zu r d iZ;have A:=qaW d k (fun _ h=>h.elim);refine qaN d<|ydT [3] [] (Ch.refl _ _) (fun _=>(.p (q:=((qcM ((T.cursor.y-T.top)+1))).size+((⟨#[59]⟩:ByteArray)).size<=9223372036854775807) (by simp only[iT,qjI];omega) .z))<|yK 10 (yQ (qg8 (T.cursor.x+1) _ A.pt (by omega) (by omega)) fun a2 B=>?_);have C:=zu v B iZ;refine q8<|yd [11,12] [] (.p (q:=(((qcM ((T.cursor.y-T.top)+1))++(⟨#[59]⟩:ByteArray))).size+((qcM (T.cursor.x+1))).size<=9223372036854775807) (by simp only[iT,qjI];omega) .z)<|yDe (nS ?_);refine q9 (yR1 (.string (((qcM ((T.cursor.y-T.top)+1))++(⟨#[59]⟩:ByteArray))++(qcM (T.cursor.x+1)))) ?_);refine⟨congrArg Ending.returned (congrArg Value.string ?_),Up.ch C⟩;simp only[qeM,a,↓reduceIte,iv]
 refine yk<|ys<|yDC [10] fun a3 a4 f=>?_;have D:=zu (zm w) f iZ;have E:=hI.blk.ch f id;have m:=qaW f hT (fun _ h=>h.elim);refine ydC [0,1,4,5,6,7,8,9] [] (fun u hu=>(.q6 (T.cursor.y+1) (.l (qg hu (E.c 2) id) (.q6 (T.cursor.x+1) .z))))<|yH 2 (yQ (qg8 (T.cursor.y+1) _ m.pt (by omega) (by omega)) fun a5 i=>?_);have G:=zu D i iZ;have I:=qaW i m (fun _ h=>h.elim);refine qaN i<|ydT [3] [] (Ch.refl _ _) (fun _=>(.p (q:=((qcM (T.cursor.y+1))).size+((⟨#[59]⟩:ByteArray)).size<=9223372036854775807) (by simp only[iT,qjI];omega) .z))<|yK 10 (yQ (qg8 (T.cursor.x+1) _ I.pt (by omega) (by omega)) fun a6 J=>?_);have K:=zu G J iZ;refine q8<|yd [11,12] [] (.p (q:=(((qcM (T.cursor.y+1))++(⟨#[59]⟩:ByteArray))).size+((qcM (T.cursor.x+1))).size<=9223372036854775807) (by simp only[iT,qjI];omega) .z)<|yDe (nS ?_);refine q9 (yR1 (.string (((qcM (T.cursor.y+1))++(⟨#[59]⟩:ByteArray))++(qcM (T.cursor.x+1)))) ?_);refine⟨congrArg Ending.returned (congrArg Value.string ?_),Up.ch K⟩;simp only[qeM,a,↓reduceIte,iv]
theorem qdT {w:World}{t:Nat}{W H:Int}{T:TS}{F:Nat->Prop}(hA0:TermAt w t T F)(hT:LT w)(hL:Lim W H T)(kk fa fb:Int)(hab:(0<=fa/\fa<=60)/\0<=fb/\fb<=60):CP 201 [pX t,iX kk,iX fa,iX fb].toArray w fun e w'=>e= .returned (.tuple #[])/\TermAt w' t (qgy T kk fa fb) (more F w w')/\Ch F w w':=by
 have h:=Sep.startT hA0;have hg:=Gz.of hA0;have hM:=hL;have B:=hM.all;refine yA Tryz.func201 rfl<|ys<|zDC [18] [0] h fun u h=>ydF (uL 0 15) [] h.on (fun u h=>(.l (h.tc 0 2) (.l (h.tc 0 3) (.a (h.ts 0 5 5) .z))))<|yH 15 (zN [xF,xF,xF,iX 0,iX 0] 84 h fun u p h=>?_);refine zHa h<|ydF [16,17] [] h.on (fun u h=> .z)<|yK 18 (zs h 1 fun u h=>?_);refine q8<|yDe (nS ?_);refine yx 2<|qa ?_;have h:=h.nrm 1 [.bool T.cursor.sty.bold,.bool T.cursor.sty.under,.bool T.cursor.sty.turned,iX T.cursor.sty.fore,iX T.cursor.sty.back];refine qV [0,1,3,8,9,10,11] (f':=[(0,pX t),(1,iX kk),(3,iX fb),(8,iX T.cursor.x),(9,iX T.cursor.y),(10,pX p),(11,iX fa)])<|qw (σ:=Nat) (fun j=>[(0,pX t),(1,iX kk),(3,iX fb),(8,iX T.cursor.x),(9,iX T.cursor.y),(10,pX p),(11,iX (fa+(j:Int)))]) (fun j u=>j<=(fb-fa).toNat/\Sep w F u [qay t (qeN T kk T.cursor.x T.cursor.y T.cursor.sty fa j),qbB p [.bool T.cursor.sty.bold,.bool T.cursor.sty.under,.bool T.cursor.sty.turned,iX T.cursor.sty.fore,iX T.cursor.sty.back] 84]) (fun j=>(fb-fa).toNat-j) 0 (by simp) ?_ ?_
 ·exact⟨ir _,h.cuts 2 rfl rfl⟩
 intro j u r C i;obtain⟨hj,h⟩:=r;have q:Lim W H (qeN T kk T.cursor.x T.cursor.y T.cursor.sty fa j):=(qhI hL _ _ _ _ _ _)
 generalize b:(qeN T kk T.cursor.x T.cursor.y T.cursor.sty fa j)=o at h q;have s:=q;have D:=s.all;refine ys<|yx 3<|yc (rL (fa+(j:Int)) fb) (fun v=>?_) fun v=>?_
 ·refine yk<|ys<|qa<|qa<|ysr<|yq 3<|yw [36] (rE kk 2) (fun g=>?_) fun g=>?_
  ·refine yz 21<|yct ?_;obtain⟨E,G,h⟩:=h.opn 0;refine zD [13] h fun u h=>yd (uL 0 13) [] (.l (h.tg 0) (.l (h.tg 0) (.l (h.gw 0).1 (.a (h.cs 1 0 5) .z))))<|yK 13 (yQ (h.grd 0 fun _ hG=>qbh _ _ _ ((fa+(j:Int))) (0) (o.grid.w) T.cursor.sty _ (h.tb hg hT.tb) hG) fun u h=>?_);refine q8<|yDe (nB (nB (nS ?_)));refine q7<|yp 3 [] (.q6 ((fa+(j:Int))+1) .z)<|yE (fun a ha=>i (j+1) _ ⟨(by omega),h.cuts 2 rfl (by rw[<-b];show qbf _ _ _ _ _ _=_;rw[b];simp only[qbf,qcO,g,↓reduceIte,Int.reduceEq,and_true,true_and,jb,ja,or_true,true_or,or_false,false_or])⟩ (by show(fb-fa).toNat-(j+1)<(fb-fa).toNat-j;omega) a (by rw[show(fa+((j+1:Nat):Int))=(fa+(j:Int))+1 by omega];exact ha.kp [0,1,3,8,9,10,11]))
  refine yq 6<|yw [39] (rE kk 0) (fun k=>?_) fun k=>?_
  ·refine yq 12<|yw [45] (rL T.cursor.y (fa+(j:Int))) (fun d=>?_) fun d=>?_
   ·refine yz 21<|yct ?_;obtain⟨I,J,h⟩:=h.opn 0;refine zD [13] h fun u h=>yd (uL 0 13) [] (.l (h.tg 0) (.l (h.tg 0) (.l (h.gw 0).1 (.a (h.cs 1 0 5) .z))))<|yK 13 (yQ (h.grd 0 fun _ hG=>qbh _ _ _ ((fa+(j:Int))) (0) (o.grid.w) T.cursor.sty _ (h.tb hg hT.tb) hG) fun u h=>?_);refine q8<|yDe (nB (nB (nS ?_)));refine q7<|yp 3 [] (.q6 ((fa+(j:Int))+1) .z)<|yE (fun a ha=>i (j+1) _ ⟨(by omega),h.cuts 2 rfl (by rw[<-b];show qbf _ _ _ _ _ _=_;rw[b];simp only[qbf,qcO,g,k,d,↓reduceIte,Int.reduceEq,and_true,true_and,jb,ja,or_true,true_or,or_false,false_or])⟩ (by show(fb-fa).toNat-(j+1)<(fb-fa).toNat-j;omega) a (by rw[show(fa+((j+1:Nat):Int))=(fa+(j:Int))+1 by omega];exact ha.kp [0,1,3,8,9,10,11]))
   refine yq 15<|yw [48] (rE kk 1) (fun c=>?_) fun c=>?_
   ·exfalso;omega
   refine yz 21<|ycf<|ysr<|yq 3<|yw [71] (rE kk 0) (fun f=>?_) fun f=>?_
   ·refine yz 8<|yc (rE (fa+(j:Int)) T.cursor.y) (fun m=>?_) fun m=>?_
    ·obtain⟨K,L,h⟩:=h.opn 0;refine zD [14] h fun u h=>yd (uL 0 14) [] (.l (h.tg 0) (.l (h.tg 0) (.l (h.gw 0).1 (.a (h.cs 1 0 5) .z))))<|yK 14 (yQ (h.grd 0 fun _ hG=>qbh _ _ _ ((fa+(j:Int))) (T.cursor.x) (o.grid.w) T.cursor.sty _ (h.tb hg hT.tb) hG) fun u h=>?_);refine q8<|yDe (nB (nB (nS ?_)));refine q7<|yp 3 [] (.q6 ((fa+(j:Int))+1) .z)<|yE (fun a ha=>i (j+1) _ ⟨(by omega),h.cuts 2 rfl (by rw[<-b];show qbf _ _ _ _ _ _=_;rw[b];simp only[qbf,qcO,g,k,d,c,f,eq_true m,↓reduceIte,Int.reduceEq,and_true,true_and,jb,ja,or_true,true_or,or_false,false_or])⟩ (by show(fb-fa).toNat-(j+1)<(fb-fa).toNat-j;omega) a (by rw[show(fa+((j+1:Nat):Int))=(fa+(j:Int))+1 by omega];exact ha.kp [0,1,3,8,9,10,11]))
    refine ysr<|yq 3<|yw [94] (rE kk 1) (fun n=>?_) fun n=>?_
    ·exfalso;omega
    refine yz 8<|ycf<|qo (nB (nB (nS ?_)));refine q7<|yp 3 [] (.q6 ((fa+(j:Int))+1) .z)<|yE (fun a ha=>i (j+1) _ ⟨(by omega),h.cuts 2 rfl (by rw[<-b];show qbf _ _ _ _ _ _=_;rw[b];simp only[qbf,qcO,g,k,d,c,f,m,n,↓reduceIte,Int.reduceEq,and_true,true_and,jb,ja,or_true,true_or,or_false,false_or])⟩ (by show(fb-fa).toNat-(j+1)<(fb-fa).toNat-j;omega) a (by rw[show(fa+((j+1:Nat):Int))=(fa+(j:Int))+1 by omega];exact ha.kp [0,1,3,8,9,10,11]))
   exfalso;omega
  refine yq 15<|yw [48] (rE kk 1) (fun d=>?_) fun d=>?_
  ·refine yz 21<|yc (rL (fa+(j:Int)) T.cursor.y) (fun c=>?_) fun c=>?_
   ·obtain⟨M,N,h⟩:=h.opn 0;refine zD [13] h fun u h=>yd (uL 0 13) [] (.l (h.tg 0) (.l (h.tg 0) (.l (h.gw 0).1 (.a (h.cs 1 0 5) .z))))<|yK 13 (yQ (h.grd 0 fun _ hG=>qbh _ _ _ ((fa+(j:Int))) (0) (o.grid.w) T.cursor.sty _ (h.tb hg hT.tb) hG) fun u h=>?_);refine q8<|yDe (nB (nB (nS ?_)));refine q7<|yp 3 [] (.q6 ((fa+(j:Int))+1) .z)<|yE (fun a ha=>i (j+1) _ ⟨(by omega),h.cuts 2 rfl (by rw[<-b];show qbf _ _ _ _ _ _=_;rw[b];simp only[qbf,qcO,g,k,d,c,↓reduceIte,Int.reduceEq,and_true,true_and,jb,ja,or_true,true_or,or_false,false_or])⟩ (by show(fb-fa).toNat-(j+1)<(fb-fa).toNat-j;omega) a (by rw[show(fa+((j+1:Nat):Int))=(fa+(j:Int))+1 by omega];exact ha.kp [0,1,3,8,9,10,11]))
   refine ysr<|yq 3<|yw [71] (rE kk 0) (fun f=>?_) fun f=>?_
   ·exfalso;omega
   refine yz 8<|ycf<|ysr<|yq 3<|yw [94] (rE kk 1) (fun m=>?_) fun m=>?_
   ·refine yz 8<|yc (rE (fa+(j:Int)) T.cursor.y) (fun n=>?_) fun n=>?_
    ·obtain⟨O,P,h⟩:=h.opn 0;refine zD [8] h fun u h=>yd (uL 0 8) [] (.l (h.tg 0) (.q6 (T.cursor.x+1) (.a (h.cs 1 0 5) .z)))<|yK 8 (yQ (h.grd 0 fun _ hG=>qbh _ _ _ ((fa+(j:Int))) (0) ((T.cursor.x+1)) T.cursor.sty _ (h.tb hg hT.tb) hG) fun u h=>?_);refine q8<|yDe (nB (nB (nS ?_)));refine q7<|yp 3 [] (.q6 ((fa+(j:Int))+1) .z)<|yE (fun a ha=>i (j+1) _ ⟨(by omega),h.cuts 2 rfl (by rw[<-b];show qbf _ _ _ _ _ _=_;rw[b];simp only[qbf,qcO,g,k,d,c,f,m,eq_true n,↓reduceIte,Int.reduceEq,and_true,true_and,jb,ja,or_true,true_or,or_false,false_or])⟩ (by show(fb-fa).toNat-(j+1)<(fb-fa).toNat-j;omega) a (by rw[show(fa+((j+1:Nat):Int))=(fa+(j:Int))+1 by omega];exact ha.kp [0,1,3,8,9,10,11]))
    refine qo (nB (nB (nS ?_)));refine q7<|yp 3 [] (.q6 ((fa+(j:Int))+1) .z)<|yE (fun a ha=>i (j+1) _ ⟨(by omega),h.cuts 2 rfl (by rw[<-b];show qbf _ _ _ _ _ _=_;rw[b];simp only[qbf,qcO,g,k,d,c,f,m,n,↓reduceIte,Int.reduceEq,and_true,true_and,jb,ja,or_true,true_or,or_false,false_or])⟩ (by show(fb-fa).toNat-(j+1)<(fb-fa).toNat-j;omega) a (by rw[show(fa+((j+1:Nat):Int))=(fa+(j:Int))+1 by omega];exact ha.kp [0,1,3,8,9,10,11]))
   exfalso;omega
  refine yz 21<|ycf<|ysr<|yq 3<|yw [71] (rE kk 0) (fun c=>?_) fun c=>?_
  ·exfalso;omega
  refine yz 8<|ycf<|ysr<|yq 3<|yw [94] (rE kk 1) (fun f=>?_) fun f=>?_
  ·exfalso;omega
  refine yz 8<|ycf<|qo (nB (nB (nS ?_)));refine q7<|yp 3 [] (.q6 ((fa+(j:Int))+1) .z)<|yE (fun a ha=>i (j+1) _ ⟨(by omega),h.cuts 2 rfl (by rw[<-b];show qbf _ _ _ _ _ _=_;rw[b];simp only[qbf,qcO,g,k,d,c,f,↓reduceIte,Int.reduceEq,and_true,true_and,jb,ja,or_true,true_or,or_false,false_or])⟩ (by show(fb-fa).toNat-(j+1)<(fb-fa).toNat-j;omega) a (by rw[show(fa+((j+1:Nat):Int))=(fa+(j:Int))+1 by omega];exact ha.kp [0,1,3,8,9,10,11]))
 have A:j=(fb-fa).toNat:=by omega
 refine qm (eS (qd (qb (qW ?_))));subst b;subst A;exact h.tfin hg rfl
theorem qgC {w:World}{ao:Option Nat}{an cc:Nat}{l:List Int}{K:Nat->Prop}(h:IntsAt w .i64 ao an cc l K)(a:Ac)(ha:a.params=l)(i:Nat):CP 188 [.agg #[iX a.kind,rX a.rune,uX a.last,.string a.marks,.slice (ao.map at0) an cc,.string a.text],iX (i:Int)].toArray w (RQ (iX (qr a.params i)) w):=by
 subst ha;obtain⟨d,c,g,f⟩:=h;cases ao with
 |none=>
  have e:a.params=[]:=by have:=d.1 rfl;simpa using this
  rw[e]at c;subst c;rw[e];exact qn5 i _ _ _ _ _ _ _ w
 |some b=>exact qn3 b i _ _ _ _ _ an cc _ w d (f b rfl).2 c
theorem qby {w:World}{ao:Option Nat}{an cc:Nat}{l:List Int}{K:Nat->Prop}(h:IntsAt w .i64 ao an cc l K)(a:Ac)(ha:a.params=l):CP 202 [.agg #[iX a.kind,rX a.rune,uX a.last,.string a.marks,.slice (ao.map at0) an cc,.string a.text]].toArray w (RQ (iX (qaU a.params)) w):=by
 subst ha;obtain⟨d,c,i,g⟩:=h;by_cases f:an=0
 ·subst f;have e:a.params=[]:=iy c;rw[e];exact qn6 _ _ _ _ _ _ _ w
 cases ao with
 |none=>
  have e:a.params=[]:=by have:=d.1 rfl;simpa using this
  rw[e]at c;exact absurd c.symm f
 |some b=>exact qn4 b _ _ _ _ _ an cc _ w d (g b rfl).2 c (by omega)
theorem qkX {w:World}{ao:Option Nat}{an cc:Nat}{l:List Int}{K:Nat->Prop}(h:IntsAt w .i64 ao an cc l K)(s:Sty)(hn:an<=1000):CP 190 [.agg #[.bool s.bold,.bool s.under,.bool s.turned,iX s.fore,iX s.back],.slice (ao.map at0) an cc].toArray w (RQ (.agg (qcu s l).vals.toArray) w):=by
 obtain⟨c,a,g,f⟩:=h;by_cases d:an=0
 ·subst d;have e:l=[]:=iy a;rw[e];exact qjv _ _ s w
 cases ao with
 |none=>
  have e:l=[]:=by have:=c.1 rfl;simpa using this
  rw[e]at a;exact absurd a.symm d
 |some b=>exact qju b an cc l s w c (f b rfl).2 a (by omega) hn
theorem qnj (T:TS):(qeM T).size<=7:=by
 have a:=qds ((if T.origin=true then T.cursor.y-T.top else T.cursor.y)+1);have b:=qds (T.cursor.x+1);unfold qeM;rw[iT,iT,qjI];omega
theorem qhK {w:World}{t:Nat}{W H:Int}{T:TS}{F:Nat->Prop}(hA:TermAt w t T F)(hT:qai w)(hL:Lim W H T)(n:Int):CP 184 [pX t,iX n].toArray w fun e w'=>e= .returned (.tuple #[])/\TermAt w' t (qbx T n) (more F w w')/\Ch F w w':=qjx hA hT (by have:=hL.bk;omega) n
theorem up_any2 (g:Nat)(G:Gr)(F:Nat->Prop)(p1 p2 n:Int)(s:Sty)(w:World)(hT:qai w)(hG:GridAt w g G F):CP 197 [pX g,iX p1,iX p2,iX n,.agg #[.bool s.bold,.bool s.under,.bool s.turned,iX s.fore,iX s.back]].toArray w fun e w'=> ∃v,e= .returned v/\GridAt w' g (upG G p1 p2 n s) (more F w w')/\Ch F w w':=
  (up_any g G F p1 p2 n s w hT hG).mono fun _ w' ⟨_,_,_,_,F',_,he,_,_,h,hF,_,_,hc⟩=>⟨_,he,h.mono hF (qbZ hG hc.size),hc⟩
theorem qp0 {w:World}{t:Nat}{W H:Int}{T:TS}{F:Nat->Prop}(hA0:TermAt w t T F)(hT:LT w)(hL:Lim W H T){ao:Option Nat}{an cc:Nat}{ac:Ac}(hV:IntsAt w .i64 ao an cc ac.params (fun b=> ¬F b/\b<w.heap.size))(hV8:an<=8)(hVb:∀x∈ac.params,0<=x/\x<=9999):CP 203 [pX t,.agg #[iX ac.kind,rX ac.rune,uX ac.last,.string ac.marks,.slice (ao.map at0) an cc,.string ac.text]].toArray w fun e w'=>e= .returned (.tuple #[])/\TermAt w' t (qcN T ac.last (qaU ac.params)) (more F w w')/\Ch F w w':=by
 have h:=Sep.startT hA0;have hg:=Gz.of hA0;have hM:=hL;have y:=hM.all;refine yA Tryz.func203 rfl<|ysr<|yo (zN [iX ac.kind,rX ac.rune,uX ac.last,.string ac.marks,.slice (ao.map at0) an cc,.string ac.text] 190 h fun u A h=>?_);refine ye<|ysr<|yp 1 [] (.a (h.cs 1 0 6) .z)<|yo (yQ (h.look (qby (h.ints hV) ac rfl)) fun u h=>?_);refine yz 3<|qa<|ysr<|yp 4 [] (.l (h.c 1 2) .z)<|yw [11] (rE ac.last 103) (fun v=>?_) fun v=>?_
 ·refine yz 8<|yc (rE (qaU ac.params) 0) (fun o=>?_) fun o=>?_
  ·refine zD [9] h fun u h=>yd (uL 0 9) [] (.l (h.tc 0 2) (.i T.cursor.x (60) .z))<|yK 9 (zTi 0 ({T with tabs:=(fun i=>if i=(T.cursor.x:Int).toNat then false else T.tabs i)}:TS) (28+(T.cursor.x:Int).toNat*1) [xF] h (fun _ _ _ _=>qg4 T _ _ _ _ _ (by omega) _) fun u h=>?_);refine q8<|yDe (nB (qW ?_));refine h.tfin hg ?_;simp[qcN, *]
  refine ysr<|yp 4 [] (.l (h.c 1 2) .z)<|yw [28] (rE ac.last 103) (fun r=>?_) fun r=>?_
  ·refine yz 8<|yc (rE (qaU ac.params) 3) (fun k=>?_) fun k=>?_
   ·refine q7<|yq 4<|yo (zT 0 ({T with tabs:=(fun _=>false)}:TS) h fun u h=>?_);refine yE (nB (qW ?_));refine h.tfin hg ?_;simp[qcN, *]
   refine ysr<|yp 4 [] (.l (h.c 1 2) .z)<|yw [40] (rE ac.last 104) (fun g=>?_) fun g=>?_
   ·exfalso;omega
   refine yp 9 [] (.l (h.c 1 2) .z)<|yw [45] (rE ac.last 108) (fun d=>?_) fun d=>?_
   ·exfalso;omega
   refine yz 13<|ycf<|ysr<|yp 4 [] (.l (h.c 1 2) .z)<|yw [59] (rE ac.last 110) (fun f=>?_) fun f=>?_
   ·exfalso;omega
   refine yz 8<|ycf<|ysr<|yp 4 [] (.l (h.c 1 2) .z)<|yw [69] (rE ac.last 110) (fun j=>?_) fun j=>?_
   ·exfalso;omega
   refine yz 8<|ycf<|ysr<|yp 4 [] (.l (h.c 1 2) .z)<|yw [83] (rE ac.last 99) (fun s=>?_) fun s=>?_
   ·exfalso;omega
   refine yz 8<|ycf<|qo (nB (qW ?_));refine h.tfin hg ?_;simp[qcN, *]
  exfalso;omega
 refine yz 8<|ycf<|ysr<|yp 4 [] (.l (h.c 1 2) .z)<|yw [28] (rE ac.last 103) (fun o=>?_) fun o=>?_
 ·exfalso;omega
 refine yz 8<|ycf<|ysr<|yp 4 [] (.l (h.c 1 2) .z)<|yw [40] (rE ac.last 104) (fun r=>?_) fun r=>?_
 ·refine yz 13<|yc (rE (qaU ac.params) 4) (fun k=>?_) fun k=>?_
  ·refine q7<|yp 6 [] (.l (h.c 1 2) .z)<|yo (zT 0 ({T with insert:=((ac.last:Int)==104)}:TS) h fun u h=>?_);refine yE (nB (qW ?_));refine h.tfin hg ?_;simp[qcN, *]
  refine ysr<|yp 4 [] (.l (h.c 1 2) .z)<|yw [59] (rE ac.last 110) (fun g=>?_) fun g=>?_
  ·exfalso;omega
  refine yz 8<|ycf<|ysr<|yp 4 [] (.l (h.c 1 2) .z)<|yw [69] (rE ac.last 110) (fun d=>?_) fun d=>?_
  ·exfalso;omega
  refine yz 8<|ycf<|ysr<|yp 4 [] (.l (h.c 1 2) .z)<|yw [83] (rE ac.last 99) (fun f=>?_) fun f=>?_
  ·exfalso;omega
  refine yz 8<|ycf<|qo (nB (qW ?_));refine h.tfin hg ?_;simp[qcN, *]
 refine yp 9 [] (.l (h.c 1 2) .z)<|yw [45] (rE ac.last 108) (fun k=>?_) fun k=>?_
 ·refine yz 13<|yc (rE (qaU ac.params) 4) (fun g=>?_) fun g=>?_
  ·refine q7<|yp 6 [] (.l (h.c 1 2) .z)<|yo (zT 0 ({T with insert:=((ac.last:Int)==104)}:TS) h fun u h=>?_);refine yE (nB (qW ?_));refine h.tfin hg ?_;simp[qcN, *]
  refine ysr<|yp 4 [] (.l (h.c 1 2) .z)<|yw [59] (rE ac.last 110) (fun d=>?_) fun d=>?_
  ·exfalso;omega
  refine yz 8<|ycf<|ysr<|yp 4 [] (.l (h.c 1 2) .z)<|yw [69] (rE ac.last 110) (fun f=>?_) fun f=>?_
  ·exfalso;omega
  refine yz 8<|ycf<|ysr<|yp 4 [] (.l (h.c 1 2) .z)<|yw [83] (rE ac.last 99) (fun j=>?_) fun j=>?_
  ·exfalso;omega
  refine yz 8<|ycf<|qo (nB (qW ?_));refine h.tfin hg ?_;simp[qcN, *]
 refine yz 13<|ycf<|ysr<|yp 4 [] (.l (h.c 1 2) .z)<|yw [59] (rE ac.last 110) (fun g=>?_) fun g=>?_
 ·refine yz 8<|yc (rE (qaU ac.params) 5) (fun d=>?_) fun d=>?_
  ·refine q7<|yq 1<|yo (yQ (h.met 0 fun F hA hF=>qiz hA (h.lt hg hT) hL (⟨#[27,91,48,110]⟩:ByteArray) (by first|decide|(simp only[iT];have m:(⟨#[27,91]⟩:ByteArray).size=2:=rfl;have n:(⟨#[82]⟩:ByteArray).size=1:=rfl;omega))) fun u h=>?_);refine yE (nB (qW ?_));refine h.tfin hg ?_;simp[qcN, *]
  refine ysr<|yp 4 [] (.l (h.c 1 2) .z)<|yw [69] (rE ac.last 110) (fun f=>?_) fun f=>?_
  ·refine yz 8<|yc (rE (qaU ac.params) 6) (fun j=>?_) fun j=>?_
   ·refine q7<|yq 2<|yo (yQ (h.peek 0 fun hI=>qoZ hI (h.lt hg hT) hL) fun u h=>?_);have B:=qnj T;refine yp 5 [] (.p (q:=((⟨#[27,91]⟩:ByteArray)).size+((qeM T)).size<=9223372036854775807) (by have m:(⟨#[27,91]⟩:ByteArray).size=2:=rfl;have n:(⟨#[82]⟩:ByteArray).size=1:=rfl;first|omega|(rw[iT];omega)) (.p (q:=(((⟨#[27,91]⟩:ByteArray)++(qeM T))).size+((⟨#[82]⟩:ByteArray)).size<=9223372036854775807) (by have m:(⟨#[27,91]⟩:ByteArray).size=2:=rfl;have n:(⟨#[82]⟩:ByteArray).size=1:=rfl;first|omega|(rw[iT];omega)) .z))<|yo (yQ (h.met 0 fun F hA hF=>qiz hA (h.lt hg hT) hL (((⟨#[27,91]⟩:ByteArray)++(qeM T))++(⟨#[82]⟩:ByteArray)) (by first|decide|(simp only[iT];have m:(⟨#[27,91]⟩:ByteArray).size=2:=rfl;have n:(⟨#[82]⟩:ByteArray).size=1:=rfl;omega))) fun u h=>?_);refine yE (nB (qW ?_));refine h.tfin hg ?_;simp[qcN, *]
   refine ysr<|yp 4 [] (.l (h.c 1 2) .z)<|yw [83] (rE ac.last 99) (fun s=>?_) fun s=>?_
   ·exfalso;omega
   refine yz 8<|ycf<|qo (nB (qW ?_));refine h.tfin hg ?_;simp[qcN, *]
  exfalso;omega
 refine yz 8<|ycf<|ysr<|yp 4 [] (.l (h.c 1 2) .z)<|yw [69] (rE ac.last 110) (fun d=>?_) fun d=>?_
 ·exfalso;omega
 refine yz 8<|ycf<|ysr<|yp 4 [] (.l (h.c 1 2) .z)<|yw [83] (rE ac.last 99) (fun f=>?_) fun f=>?_
 ·refine yz 8<|yc (rE (qaU ac.params) 0) (fun j=>?_) fun j=>?_
  ·refine q7<|yq 1<|yo (yQ (h.met 0 fun F hA hF=>qiz hA (h.lt hg hT) hL (⟨#[27,91,63,54,99]⟩:ByteArray) (by first|decide|(simp only[iT];have m:(⟨#[27,91]⟩:ByteArray).size=2:=rfl;have n:(⟨#[82]⟩:ByteArray).size=1:=rfl;omega))) fun u h=>?_);refine yE (nB (qW ?_));refine h.tfin hg ?_;simp[qcN, *]
  refine qo (nB (qW ?_));refine h.tfin hg ?_;simp[qcN, *]
 refine yz 8<|ycf<|qo (nB (qW ?_));refine h.tfin hg ?_;simp[qcN, *]
theorem edit_at {w:World}{t:Nat}{W H:Int}{T:TS}{F:Nat->Prop}(hA0:TermAt w t T F)(hT:LT w)(hL:Lim W H T){ao:Option Nat}{an cc:Nat}{ac:Ac}(hV:IntsAt w .i64 ao an cc ac.params (fun b=> ¬F b/\b<w.heap.size))(hV8:an<=8)(hVb:∀x∈ac.params,0<=x/\x<=9999)(n:Int)(hn:0<=n/\n<=100000):CP 191 [pX t,.agg #[iX ac.kind,rX ac.rune,uX ac.last,.string ac.marks,.slice (ao.map at0) an cc,.string ac.text],iX n].toArray w fun e w'=>e= .returned (.tuple #[])/\TermAt w' t (qbo T ac.last n ac.params) (more F w w')/\Ch F w w':=by
 have h:=Sep.startT hA0;have hg:=Gz.of hA0;have hM:=hL;have G:=hM.all;refine yA Tryz.func191 rfl<|ysr<|yo (zN [iX ac.kind,rX ac.rune,uX ac.last,.string ac.marks,.slice (ao.map at0) an cc,.string ac.text] 190 h fun u I h=>?_);refine ye<|ys<|zDC [18] [0,1] h fun u h=>ydF (uL 0 15) [] h.on (fun u h=>(.l (h.tc 0 2) (.l (h.tc 0 3) (.a (h.ts 0 5 5) .z))))<|yH 15 (zN [xF,xF,xF,iX 0,iX 0] 84 h fun u J h=>?_);refine zHa h<|ydF [16,17] [] h.on (fun u h=> .z)<|yK 18 (zs h 2 fun u h=>?_);refine q8<|yDe (nS ?_);refine ysr<|yp 7 [] (.l (h.tc 0 26) .z)<|yw [31] (rM T.top T.cursor.y) (fun s=>?_) fun s=>?_
 ·refine yp 15 [] (.l (h.tc 0 27) .z)<|ye<|ysr<|yp 2 [] (.l (h.c 1 2) .z)<|ye<|qa<|yx 2<|yc (rE ac.last 64) (fun i=>?_) fun i=>?_
  ·obtain⟨K,L,h⟩:=h.opn 0;refine zD [8] h fun u h=>yd (uL 0 8) [] (.l (h.tg 0) (.a (h.cs 2 0 5) .z))<|yK 8 (yQ (h.grd 0 fun _ hG=>qim _ _ _ (T.cursor.x) (T.cursor.y) (n) T.cursor.sty _ (h.tb hg hT.tb) hG) fun u h=>?_);refine q8<|yDe (nB (qW ?_));refine h.tfin hg ?_;simp[qbo, *]
  refine yx 2<|yc (rE ac.last 80) (fun j=>?_) fun j=>?_
  ·obtain⟨M,N,h⟩:=h.opn 0;refine zD [8] h fun u h=>yd (uL 0 8) [] (.l (h.tg 0) (.a (h.cs 2 0 5) .z))<|yK 8 (yQ (h.grd 0 fun _ hG=>qlJ _ _ _ (T.cursor.x) (T.cursor.y) (n) T.cursor.sty _ (h.tb hg hT.tb) hG) fun u h=>?_);refine q8<|yDe (nB (qW ?_));refine h.tfin hg ?_;simp[qbo, *]
  refine yx 2<|yc (rE ac.last 88) (fun k=>?_) fun k=>?_
  ·obtain⟨O,P,h⟩:=h.opn 0;refine zD [10] h fun u h=>yd (uL 0 10) [] (.l (h.tg 0) (.q6 (T.cursor.x+n) (.a (h.cs 2 0 5) .z)))<|yK 10 (yQ (h.grd 0 fun _ hG=>qbh _ _ _ (T.cursor.y) (T.cursor.x) ((T.cursor.x+n)) T.cursor.sty _ (h.tb hg hT.tb) hG) fun u h=>?_);refine q8<|yDe (nB (qW ?_));refine h.tfin hg ?_;simp[qbo, *]
  refine yx 2<|yc (rE ac.last 75) (fun m=>?_) fun m=>?_
  ·refine q7<|yp 2 [] (.a (h.cs 1 0 6) .z)<|yo (yQ (h.look (qby (h.ints hV) ac rfl)) fun u h=>?_);refine yp 6 [] (.q6 (T.cursor.y+1) .z) ?_;refine yo (yQ (h.met 0 fun F hA hF=>qdT hA (h.lt hg hT) hL ((qaU ac.params)) (T.cursor.y) ((T.cursor.y+1)) (by constructor<;>omega)) fun u h=>?_);refine yE (nB (qW ?_));refine h.tfin hg ?_;simp[qbo, *]
  refine yx 2<|yc (rE ac.last 74) (fun o=>?_) fun o=>?_
  ·refine ys<|ysr<|yp 1 [] (.a (h.cs 1 0 6) .z)<|yo (yQ (h.look (qby (h.ints hV) ac rfl)) fun u h=>?_);refine yz 3<|yc (rE (qaU ac.params) 3) (fun d=>?_) fun d=>?_
   ·refine q7<|yq 3<|yo (zNil 0 h fun u h=>?_);refine ye ?_;have p:Lim W H ({T with back:=[]}:TS):={hL with bk:=by simp}
    generalize v:({T with back:=[]}:TS)=A at h p;have B:=p;have Q:=B.all;obtain⟨R,S,h⟩:=h.opn 0;refine zDC [10] [0,1,2] h fun u h=>ydF [0,1,3,4,5,6,7,8,9] [] h.on (fun u h=>(.a (h.cs 1 0 6) (.l (h.tg 0) (.l (h.gw 0).2 .z))))<|yH 2 (yQ (h.look (qby (h.ints hV) ac rfl)) fun u h=>?_);refine zH h ?_;refine yK 10 (yQ (h.met 0 fun F hA hF=>qdT hA (h.lt hg hT) p ((qaU ac.params)) (0) (A.grid.h) (by constructor<;>omega)) fun u h=>?_);refine q8<|yDe (nB (qW ?_));subst v;refine h.tfin hg ?_;simp[qbo, *]
   refine yk ?_;obtain⟨U,V,h⟩:=h.opn 0;refine zDC [10] [0,1,2] h fun u h=>ydF [0,1,3,4,5,6,7,8,9] [] h.on (fun u h=>(.a (h.cs 1 0 6) (.l (h.tg 0) (.l (h.gw 0).2 .z))))<|yH 2 (yQ (h.look (qby (h.ints hV) ac rfl)) fun u h=>?_);refine zH h ?_;refine yK 10 (yQ (h.met 0 fun F hA hF=>qdT hA (h.lt hg hT) hL ((qaU ac.params)) (0) (T.grid.h) (by constructor<;>omega)) fun u h=>?_);refine q8<|yDe (nB (qW ?_));refine h.tfin hg ?_;simp[qbo, *]
  refine yx 2<|yc (rE ac.last 76) (fun d=>?_) fun d=>?_
  ·refine yx 1<|yc (rL T.cursor.y T.bot) (fun f=>?_) fun f=>?_
   ·obtain⟨X,Y,h⟩:=h.opn 0;refine zD [11] h fun u h=>yd (uL 0 11) [] (.l (h.tg 0) (.l (h.tc 0 27) (.a (h.cs 2 0 5) .z)))<|yK 11 (yQ (h.grd 0 fun _ hG=>qg3 _ _ _ (T.cursor.y) (T.bot) (n) T.cursor.sty _ (h.tb hg hT.tb) hG) fun u h=>?_);refine q8<|yDe (nB (qW ?_));refine h.tfin hg ?_;simp[qbo, *]
   refine qo (nB (qW ?_));refine h.tfin hg ?_;simp[qbo, *]
  refine yx 2<|yc (rE ac.last 77) (fun f=>?_) fun f=>?_
  ·refine yx 1<|yc (rL T.cursor.y T.bot) (fun g=>?_) fun g=>?_
   ·obtain⟨Z,a0,h⟩:=h.opn 0;refine zD [11] h fun u h=>yd (uL 0 11) [] (.l (h.tg 0) (.l (h.tc 0 27) (.a (h.cs 2 0 5) .z)))<|yK 11 (yC (h.grdV 0 fun _ hG=>up_any2 _ _ _ (T.cursor.y) (T.bot) (n) T.cursor.sty _ (h.tb hg hT.tb) hG) ?_);rintro _ u ⟨a1,rfl,h⟩;refine⟨_,rfl,?_⟩;refine q8<|yDe (nB (qW ?_));refine h.tfin hg ?_;simp[qbo, *]
   refine qo (nB (qW ?_));refine h.tfin hg ?_;simp[qbo, *]
  refine yx 2<|yc (rE ac.last 83) (fun g=>?_) fun g=>?_
  ·refine q7<|yq 2<|yo (yQ (h.met 0 fun F hA hF=>qhK hA (h.tb hg hT.tb) hL (n)) fun u h=>?_);refine yE (nB (qW ?_));refine h.tfin hg ?_;simp[qbo, *]
  refine yx 2<|yc (rE ac.last 84) (fun q=>?_) fun q=>?_
  ·obtain⟨a2,a3,h⟩:=h.opn 0;refine zD [14] h fun u h=>yd (uL 0 14) [] (.l (h.tg 0) (.l (h.tc 0 26) (.l (h.tc 0 27) (.a (h.cs 2 0 5) .z))))<|yK 14 (yQ (h.grd 0 fun _ hG=>qg3 _ _ _ (T.top) (T.bot) (n) T.cursor.sty _ (h.tb hg hT.tb) hG) fun u h=>?_);refine q8<|yDe (nB (qW ?_));refine h.tfin hg ?_;simp[qbo, *]
  refine q7<|yp 2 [] (.a (h.cs 1 0 6) .z)<|yo (yQ (h.met 0 fun F hA hF=>qp0 hA (h.lt hg hT) hL (h.intsF hV hF) hV8 hVb) fun u h=>?_);refine yE (nB (qW ?_));refine h.tfin hg ?_;simp[qbo, *]
 refine yz 15<|ysr<|yp 2 [] (.l (h.c 1 2) .z)<|ye<|qa<|yx 2<|yc (rE ac.last 64) (fun i=>?_) fun i=>?_
 ·obtain⟨a4,a5,h⟩:=h.opn 0;refine zD [8] h fun u h=>yd (uL 0 8) [] (.l (h.tg 0) (.a (h.cs 2 0 5) .z))<|yK 8 (yQ (h.grd 0 fun _ hG=>qim _ _ _ (T.cursor.x) (T.cursor.y) (n) T.cursor.sty _ (h.tb hg hT.tb) hG) fun u h=>?_);refine q8<|yDe (nB (qW ?_));refine h.tfin hg ?_;simp[qbo, *]
 refine yx 2<|yc (rE ac.last 80) (fun j=>?_) fun j=>?_
 ·obtain⟨a6,a7,h⟩:=h.opn 0;refine zD [8] h fun u h=>yd (uL 0 8) [] (.l (h.tg 0) (.a (h.cs 2 0 5) .z))<|yK 8 (yQ (h.grd 0 fun _ hG=>qlJ _ _ _ (T.cursor.x) (T.cursor.y) (n) T.cursor.sty _ (h.tb hg hT.tb) hG) fun u h=>?_);refine q8<|yDe (nB (qW ?_));refine h.tfin hg ?_;simp[qbo, *]
 refine yx 2<|yc (rE ac.last 88) (fun k=>?_) fun k=>?_
 ·obtain⟨a8,a9,h⟩:=h.opn 0;refine zD [10] h fun u h=>yd (uL 0 10) [] (.l (h.tg 0) (.q6 (T.cursor.x+n) (.a (h.cs 2 0 5) .z)))<|yK 10 (yQ (h.grd 0 fun _ hG=>qbh _ _ _ (T.cursor.y) (T.cursor.x) ((T.cursor.x+n)) T.cursor.sty _ (h.tb hg hT.tb) hG) fun u h=>?_);refine q8<|yDe (nB (qW ?_));refine h.tfin hg ?_;simp[qbo, *]
 refine yx 2<|yc (rE ac.last 75) (fun m=>?_) fun m=>?_
 ·refine q7<|yp 2 [] (.a (h.cs 1 0 6) .z)<|yo (yQ (h.look (qby (h.ints hV) ac rfl)) fun u h=>?_);refine yp 6 [] (.q6 (T.cursor.y+1) .z) ?_;refine yo (yQ (h.met 0 fun F hA hF=>qdT hA (h.lt hg hT) hL ((qaU ac.params)) (T.cursor.y) ((T.cursor.y+1)) (by constructor<;>omega)) fun u h=>?_);refine yE (nB (qW ?_));refine h.tfin hg ?_;simp[qbo, *]
 refine yx 2<|yc (rE ac.last 74) (fun o=>?_) fun o=>?_
 ·refine ys<|ysr<|yp 1 [] (.a (h.cs 1 0 6) .z)<|yo (yQ (h.look (qby (h.ints hV) ac rfl)) fun u h=>?_);refine yz 3<|yc (rE (qaU ac.params) 3) (fun d=>?_) fun d=>?_
  ·refine q7<|yq 3<|yo (zNil 0 h fun u h=>?_);refine ye ?_;have r:Lim W H ({T with back:=[]}:TS):={hL with bk:=by simp}
   generalize C:({T with back:=[]}:TS)=D at h r;have E:=r;have aa:=E.all;obtain⟨ab,ad,h⟩:=h.opn 0;refine zDC [10] [0,1,2] h fun u h=>ydF [0,1,3,4,5,6,7,8,9] [] h.on (fun u h=>(.a (h.cs 1 0 6) (.l (h.tg 0) (.l (h.gw 0).2 .z))))<|yH 2 (yQ (h.look (qby (h.ints hV) ac rfl)) fun u h=>?_);refine zH h ?_;refine yK 10 (yQ (h.met 0 fun F hA hF=>qdT hA (h.lt hg hT) r ((qaU ac.params)) (0) (D.grid.h) (by constructor<;>omega)) fun u h=>?_);refine q8<|yDe (nB (qW ?_));subst C;refine h.tfin hg ?_;simp[qbo, *]
  refine yk ?_;obtain⟨ae,af,h⟩:=h.opn 0;refine zDC [10] [0,1,2] h fun u h=>ydF [0,1,3,4,5,6,7,8,9] [] h.on (fun u h=>(.a (h.cs 1 0 6) (.l (h.tg 0) (.l (h.gw 0).2 .z))))<|yH 2 (yQ (h.look (qby (h.ints hV) ac rfl)) fun u h=>?_);refine zH h ?_;refine yK 10 (yQ (h.met 0 fun F hA hF=>qdT hA (h.lt hg hT) hL ((qaU ac.params)) (0) (T.grid.h) (by constructor<;>omega)) fun u h=>?_);refine q8<|yDe (nB (qW ?_));refine h.tfin hg ?_;simp[qbo, *]
 refine yx 2<|yc (rE ac.last 76) (fun d=>?_) fun d=>?_
 ·refine yx 1<|ycf<|qo (nB (qW ?_));refine h.tfin hg ?_;simp[qbo, *]
 refine yx 2<|yc (rE ac.last 77) (fun f=>?_) fun f=>?_
 ·refine yx 1<|ycf<|qo (nB (qW ?_));refine h.tfin hg ?_;simp[qbo, *]
 refine yx 2<|yc (rE ac.last 83) (fun g=>?_) fun g=>?_
 ·refine q7<|yq 2<|yo (yQ (h.met 0 fun F hA hF=>qhK hA (h.tb hg hT.tb) hL (n)) fun u h=>?_);refine yE (nB (qW ?_));refine h.tfin hg ?_;simp[qbo, *]
 refine yx 2<|yc (rE ac.last 84) (fun q=>?_) fun q=>?_
 ·obtain⟨ag,ah,h⟩:=h.opn 0;refine zD [14] h fun u h=>yd (uL 0 14) [] (.l (h.tg 0) (.l (h.tc 0 26) (.l (h.tc 0 27) (.a (h.cs 2 0 5) .z))))<|yK 14 (yQ (h.grd 0 fun _ hG=>qg3 _ _ _ (T.top) (T.bot) (n) T.cursor.sty _ (h.tb hg hT.tb) hG) fun u h=>?_);refine q8<|yDe (nB (qW ?_));refine h.tfin hg ?_;simp[qbo, *]
 refine q7<|yp 2 [] (.a (h.cs 1 0 6) .z)<|yo (yQ (h.met 0 fun F hA hF=>qp0 hA (h.lt hg hT) hL (h.intsF hV hF) hV8 hVb) fun u h=>?_);refine yE (nB (qW ?_));refine h.tfin hg ?_;simp[qbo, *]
theorem qcx {w:World}{t:Nat}{W H:Int}{T:TS}{F:Nat->Prop}(hA:TermAt w t T F)(hT:qai w)(hL:Lim W H T)(x y:Int)(hx: -100000<=x/\x<=100000)(hy: -100000<=y/\y<=100000):CP 189 [pX t,iX x,iX y].toArray w fun e w'=>e= .returned (.tuple #[])/\TermAt w' t (qeG T x y) (more F w w')/\Ch F w w':=
  home_at hA (by have:=hL.tb;have:=hL.hb;omega) x y (by omega) (by omega)
theorem plain_at {w:World}{t:Nat}{W H:Int}{T:TS}{F:Nat->Prop}(hA0:TermAt w t T F)(hT:LT w)(hL:Lim W H T){ao:Option Nat}{an cc:Nat}{ac:Ac}(hV:IntsAt w .i64 ao an cc ac.params (fun b=> ¬F b/\b<w.heap.size))(hV8:an<=8)(hVb:∀x∈ac.params,0<=x/\x<=9999):CP 166 [pX t,.agg #[iX ac.kind,rX ac.rune,uX ac.last,.string ac.marks,.slice (ao.map at0) an cc,.string ac.text]].toArray w fun e w'=>e= .returned (.tuple #[])/\TermAt w' t (qax T ac.last ac.params) (more F w w')/\Ch F w w':=by
 have h:=Sep.startT hA0;have hg:=Gz.of hA0;have hM:=hL;have M:=hM.all;have N:=qdS ac.params 0;have O:=qjH hVb 0;have P:=qdS ac.params 1;have Q:=qjH hVb 1;refine yA Tryz.func166 rfl<|ysr<|yo (zN [iX ac.kind,rX ac.rune,uX ac.last,.string ac.marks,.slice (ao.map at0) an cc,.string ac.text] 190 h fun u R h=>?_);refine ye<|ysr<|yp 1 [] (.a (h.cs 1 0 6) .z)<|yo (yQ (h.look (qgC (h.ints hV) ac rfl 0)) fun u h=>?_);refine yz 3<|ys<|zD [] h fun u h=>yd (uL 0 12) [] (.l (h.tc 0 2) (.l (h.tc 0 3) .z))<|yDe (nS ?_);refine ysr<|yp 2 [] (.l (h.c 1 2) .z)<|ye<|qa<|yx 2<|yc (rE ac.last 65) (fun q=>?_) fun q=>?_
 ·refine yx 1<|ys<|ysr<|yp 6 [] (.l (h.tc 0 26) .z)<|ye<|yc (rM T.top T.cursor.y) (fun g=>?_) fun g=>?_
  ·refine q7<|yp 5 [] (.l (h.tc 0 26) .z)<|ye<|q7<|yp 7 [] (.q6 (T.cursor.y-(qr ac.params 0)) .z)<|yo (yQ (h.met 0 fun F hA hF=>qaJ hA (h.tb hg hT.tb) hL (T.cursor.x) ((max ((T.cursor.y-(qr ac.params 0)):Int) T.top))) fun u h=>?_);refine yE (nB (qW ?_));refine h.tfin hg ?_;simp[qax, *]
  refine yk<|q7<|yp 7 [] (.q6 (T.cursor.y-(qr ac.params 0)) .z)<|yo (yQ (h.met 0 fun F hA hF=>qaJ hA (h.tb hg hT.tb) hL (T.cursor.x) ((max ((T.cursor.y-(qr ac.params 0)):Int) 0))) fun u h=>?_);refine yE (nB (qW ?_));refine h.tfin hg ?_;simp[qax, *]
 refine ys<|yx 2<|yc (rE ac.last 66) (fun g=>?_) fun g=>?_
 ·refine yk<|yc (rE ac.last 66) (fun j=>?_) fun j=>?_
  ·refine ysr ?_;obtain⟨S,U,h⟩:=h.opn 0;refine yp 8 [] (.l (h.tg 0) (.l (h.gw 0).2 .z))<|ye<|ys<|ysr<|yp 6 [] (.l (h.tc 0 27) .z)<|ye<|yc (rL T.cursor.y T.bot) (fun d=>?_) fun d=>?_
   ·refine q7<|yp 5 [] (.l (h.tc 0 27) .z)<|ye<|q7<|yp 8 [] (.q6 (T.cursor.y+(qr ac.params 0)) (.q6 (T.bot-1) .z))<|yo (yQ (h.met 0 fun F hA hF=>qaJ hA (h.tb hg hT.tb) hL (T.cursor.x) ((min ((T.cursor.y+(qr ac.params 0)):Int) (T.bot-1)))) fun u h=>?_);refine yE (nB (qW ?_));refine h.tfin hg ?_;simp[qax, *]
   refine yk<|q7<|yp 8 [] (.q6 (T.cursor.y+(qr ac.params 0)) (.q6 (T.grid.h-1) .z))<|yo (yQ (h.met 0 fun F hA hF=>qaJ hA (h.tb hg hT.tb) hL (T.cursor.x) ((min ((T.cursor.y+(qr ac.params 0)):Int) (T.grid.h-1)))) fun u h=>?_);refine yE (nB (qW ?_));refine h.tfin hg ?_;simp[qax, *]
  exfalso;omega
 refine q7<|yz 2<|yc (rE ac.last 101) (fun j=>?_) fun j=>?_
 ·refine ysr ?_;obtain⟨V,X,h⟩:=h.opn 0;refine yp 8 [] (.l (h.tg 0) (.l (h.gw 0).2 .z))<|ye<|ys<|ysr<|yp 6 [] (.l (h.tc 0 27) .z)<|ye<|yc (rL T.cursor.y T.bot) (fun d=>?_) fun d=>?_
  ·refine q7<|yp 5 [] (.l (h.tc 0 27) .z)<|ye<|q7<|yp 8 [] (.q6 (T.cursor.y+(qr ac.params 0)) (.q6 (T.bot-1) .z))<|yo (yQ (h.met 0 fun F hA hF=>qaJ hA (h.tb hg hT.tb) hL (T.cursor.x) ((min ((T.cursor.y+(qr ac.params 0)):Int) (T.bot-1)))) fun u h=>?_);refine yE (nB (qW ?_));refine h.tfin hg ?_;simp[qax, *]
  refine yk<|q7<|yp 8 [] (.q6 (T.cursor.y+(qr ac.params 0)) (.q6 (T.grid.h-1) .z))<|yo (yQ (h.met 0 fun F hA hF=>qaJ hA (h.tb hg hT.tb) hL (T.cursor.x) ((min ((T.cursor.y+(qr ac.params 0)):Int) (T.grid.h-1)))) fun u h=>?_);refine yE (nB (qW ?_));refine h.tfin hg ?_;simp[qax, *]
 refine ys<|yx 2<|yc (rE ac.last 67) (fun d=>?_) fun d=>?_
 ·refine yk<|yc (rE ac.last 67) (fun k=>?_) fun k=>?_
  ·refine q7<|yp 5 [] (.q6 (T.cursor.x+(qr ac.params 0)) .z)<|yo (yQ (h.met 0 fun F hA hF=>qaJ hA (h.tb hg hT.tb) hL ((T.cursor.x+(qr ac.params 0))) (T.cursor.y)) fun u h=>?_);refine yE (nB (qW ?_));refine h.tfin hg ?_;simp[qax, *]
  exfalso;omega
 refine q7<|yz 2<|yc (rE ac.last 97) (fun k=>?_) fun k=>?_
 ·refine q7<|yp 5 [] (.q6 (T.cursor.x+(qr ac.params 0)) .z)<|yo (yQ (h.met 0 fun F hA hF=>qaJ hA (h.tb hg hT.tb) hL ((T.cursor.x+(qr ac.params 0))) (T.cursor.y)) fun u h=>?_);refine yE (nB (qW ?_));refine h.tfin hg ?_;simp[qax, *]
 refine yx 2<|yc (rE ac.last 68) (fun r=>?_) fun r=>?_
 ·refine q7<|yp 5 [] (.q6 (T.cursor.x-(qr ac.params 0)) .z)<|yo (yQ (h.met 0 fun F hA hF=>qaJ hA (h.tb hg hT.tb) hL ((T.cursor.x-(qr ac.params 0))) (T.cursor.y)) fun u h=>?_);refine yE (nB (qW ?_));refine h.tfin hg ?_;simp[qax, *]
 refine ys<|yx 2<|yc (rE ac.last 71) (fun s=>?_) fun s=>?_
 ·refine yk<|yc (rE ac.last 71) (fun m=>?_) fun m=>?_
  ·refine q7<|yp 4 [] (.q6 ((qr ac.params 0)-1) .z)<|yo (yQ (h.met 0 fun F hA hF=>qaJ hA (h.tb hg hT.tb) hL (((qr ac.params 0)-1)) (T.cursor.y)) fun u h=>?_);refine yE (nB (qW ?_));refine h.tfin hg ?_;simp[qax, *]
  exfalso;omega
 refine q7<|yz 2<|yc (rE ac.last 96) (fun m=>?_) fun m=>?_
 ·refine q7<|yp 4 [] (.q6 ((qr ac.params 0)-1) .z)<|yo (yQ (h.met 0 fun F hA hF=>qaJ hA (h.tb hg hT.tb) hL (((qr ac.params 0)-1)) (T.cursor.y)) fun u h=>?_);refine yE (nB (qW ?_));refine h.tfin hg ?_;simp[qax, *]
 refine yx 2<|yc (rE ac.last 100) (fun v=>?_) fun v=>?_
 ·refine q7<|yp 4 [] (.q6 (T.cursor.x+1) .z) ?_;refine yo (yQ (h.met 0 fun F hA hF=>qcx hA (h.tb hg hT.tb) hL ((T.cursor.x+1)) ((qr ac.params 0)) (by constructor<;>omega) (by constructor<;>omega)) fun u h=>?_);refine yE (nB (qW ?_));refine h.tfin hg ?_;simp[qax, *]
 refine ys<|yx 2<|yc (rE ac.last 72) (fun A=>?_) fun A=>?_
 ·refine yk<|yc (rE ac.last 72) (fun n=>?_) fun n=>?_
  ·refine q7<|yp 2 [] (.a (h.cs 1 0 6) .z)<|yo (yQ (h.look (qgC (h.ints hV) ac rfl 1)) fun u h=>?_);refine yq 4 ?_;refine yo (yQ (h.met 0 fun F hA hF=>qcx hA (h.tb hg hT.tb) hL ((qr ac.params 1)) ((qr ac.params 0)) (by constructor<;>omega) (by constructor<;>omega)) fun u h=>?_);refine yE (nB (qW ?_));refine h.tfin hg ?_;simp[qax, *]
  exfalso;omega
 refine q7<|yz 2<|yc (rE ac.last 102) (fun n=>?_) fun n=>?_
 ·refine q7<|yp 2 [] (.a (h.cs 1 0 6) .z)<|yo (yQ (h.look (qgC (h.ints hV) ac rfl 1)) fun u h=>?_);refine yq 4 ?_;refine yo (yQ (h.met 0 fun F hA hF=>qcx hA (h.tb hg hT.tb) hL ((qr ac.params 1)) ((qr ac.params 0)) (by constructor<;>omega) (by constructor<;>omega)) fun u h=>?_);refine yE (nB (qW ?_));refine h.tfin hg ?_;simp[qax, *]
 refine yx 2<|yc (rE ac.last 109) (fun B=>?_) fun B=>?_
 ·refine zD [8,12] h fun u h=>yd (uL 0 8) [] (.a (h.ts 0 5 5) (.l (h.c 1 4) .z))<|yK 8 (yQ (h.look (qkX (h.ints hV) T.cursor.sty (by omega))) fun u h=>?_);refine q8<|yd (uL 9 3) [] .z<|yK 12 (zT 0 ({T with cursor:=(Cur.mk T.cursor.x T.cursor.y T.cursor.late (qcu T.cursor.sty ac.params))}:TS) h fun u h=>?_);refine q8<|yDe (nB (qW ?_));refine h.tfin hg ?_;simp[qax, *]
 refine yx 2<|yc (rE ac.last 114) (fun C=>?_) fun C=>?_
 ·rcases ao with _|ab
  ·have G:ac.params=[]:=by have:=hV.1.1 rfl;simpa using this
   have Y:an=0:=by have:=hV.2.1;rw[G]at this;exact this.symm
   have D:ac.params.length=an:=hV.2.1;refine ysr ?_;obtain⟨Z,a0,h⟩:=h.opn 0;refine yp 8 [] (.l (h.tg 0) (.l (h.gw 0).2 .z))<|ye<|ys<|ysr<|yp 5 [] (.l (h.c 1 4) .z)<|yw [144] (rL 1 (an:Int)) (fun p=>?_) fun p=>?_
   ·exfalso;omega
   refine yz 11<|ycf<|yk<|yx 3<|yc (rL (qr ac.params 0) T.grid.h) (fun f=>?_) fun f=>?_
   ·refine ysr<|yp 7 [] (.q6 ((qr ac.params 0)-1) .z)<|yo (zT 0 ({T with top:=((qr ac.params 0)-1)}:TS) h fun u h=>?_);refine yq 10<|yo (zT 0 ({T with top:=((qr ac.params 0)-1),bot:=T.grid.h}:TS) h fun u h=>?_);refine ye<|q7<|yq 1 ?_;have I:Lim W H ({T with top:=((qr ac.params 0)-1),bot:=T.grid.h}:TS):={hL with tb:=⟨(show(0:Int)<=((qr ac.params 0)-1) by omega),(show(((qr ac.params 0)-1):Int)<T.grid.h by omega),(show(T.grid.h:Int)<=H by omega)⟩}
    refine yo (yQ (h.met 0 fun F hA hF=>qcx hA (h.tb hg hT.tb) I (1) (1) (by constructor<;>omega) (by constructor<;>omega)) fun u h=>?_);refine yE (nB (qW ?_));refine h.tfin hg ?_;simp only[qax,q,g,j,d,k,r,s,m,v,A,n,B,C,p,f,D,↓reduceIte,Int.reduceEq,Int.reduceLT,Int.reduceLE,sB]
   refine qo (nB (qW ?_));refine h.tfin hg ?_;simp only[qax,q,g,j,d,k,r,s,m,v,A,n,B,C,p,f,D,↓reduceIte,Int.reduceEq,Int.reduceLT,Int.reduceLE,sB]
  have D:ac.params.length=an:=hV.2.1;have a1:=qaM hVb (by decide) 1;refine ysr ?_;obtain⟨a2,a3,h⟩:=h.opn 0;refine yp 8 [] (.l (h.tg 0) (.l (h.gw 0).2 .z))<|ye<|ys<|ysr<|yp 5 [] (.l (h.c 1 4) .z)<|yw [144] (rL 1 (an:Int)) (fun p=>?_) fun p=>?_
  ·refine yp 11 [] (.l (h.c 1 4) (.i 1 (an) (.l (o:=1) (qir (h.ints hV).1 1 (by omega)) .z)))<|ye<|yc (rL 0 (ac.params.getD 1 0)) (fun f=>?_) fun f=>?_
   ·refine zD [] h fun u h=>yd (uL 0 13) [] (.l (h.c 1 4) (.i 1 (an) (.l (o:=1) (qir (h.ints hV).1 1 (by omega)) (.l (h.tg 0) (.l (h.gw 0).2 .z)))))<|yDe (nS ?_);refine yx 3<|yc (rL (qr ac.params 0) (min ((ac.params.getD 1 0):Int) T.grid.h)) (fun E=>?_) fun E=>?_
    ·refine ysr<|yp 7 [] (.q6 ((qr ac.params 0)-1) .z)<|yo (zT 0 ({T with top:=((qr ac.params 0)-1)}:TS) h fun u h=>?_);refine yq 10<|yo (zT 0 ({T with top:=((qr ac.params 0)-1),bot:=(min ((ac.params.getD 1 0):Int) T.grid.h)}:TS) h fun u h=>?_);refine ye<|q7<|yq 1 ?_;have J:Lim W H ({T with top:=((qr ac.params 0)-1),bot:=(min ((ac.params.getD 1 0):Int) T.grid.h)}:TS):={hL with tb:=⟨(show(0:Int)<=((qr ac.params 0)-1) by omega),(show(((qr ac.params 0)-1):Int)<(min ((ac.params.getD 1 0):Int) T.grid.h) by omega),(show((min ((ac.params.getD 1 0):Int) T.grid.h):Int)<=H by omega)⟩}
     refine yo (yQ (h.met 0 fun F hA hF=>qcx hA (h.tb hg hT.tb) J (1) (1) (by constructor<;>omega) (by constructor<;>omega)) fun u h=>?_);refine yE (nB (qW ?_));refine h.tfin hg ?_;simp only[qax,q,g,j,d,k,r,s,m,v,A,n,B,C,p,f,E,D,↓reduceIte,Int.reduceEq,Int.reduceLT,Int.reduceLE,sB]
    refine qo (nB (qW ?_));refine h.tfin hg ?_;simp only[qax,q,g,j,d,k,r,s,m,v,A,n,B,C,p,f,E,D,↓reduceIte,Int.reduceEq,Int.reduceLT,Int.reduceLE,sB]
   refine yk<|yx 3<|yc (rL (qr ac.params 0) T.grid.h) (fun E=>?_) fun E=>?_
   ·refine ysr<|yp 7 [] (.q6 ((qr ac.params 0)-1) .z)<|yo (zT 0 ({T with top:=((qr ac.params 0)-1)}:TS) h fun u h=>?_);refine yq 10<|yo (zT 0 ({T with top:=((qr ac.params 0)-1),bot:=T.grid.h}:TS) h fun u h=>?_);refine ye<|q7<|yq 1 ?_;have K:Lim W H ({T with top:=((qr ac.params 0)-1),bot:=T.grid.h}:TS):={hL with tb:=⟨(show(0:Int)<=((qr ac.params 0)-1) by omega),(show(((qr ac.params 0)-1):Int)<T.grid.h by omega),(show(T.grid.h:Int)<=H by omega)⟩}
    refine yo (yQ (h.met 0 fun F hA hF=>qcx hA (h.tb hg hT.tb) K (1) (1) (by constructor<;>omega) (by constructor<;>omega)) fun u h=>?_);refine yE (nB (qW ?_));refine h.tfin hg ?_;simp only[qax,q,g,j,d,k,r,s,m,v,A,n,B,C,p,f,E,D,↓reduceIte,Int.reduceEq,Int.reduceLT,Int.reduceLE,sB]
   refine qo (nB (qW ?_));refine h.tfin hg ?_;simp only[qax,q,g,j,d,k,r,s,m,v,A,n,B,C,p,f,E,D,↓reduceIte,Int.reduceEq,Int.reduceLT,Int.reduceLE,sB]
  refine yz 11<|ycf<|yk<|yx 3<|yc (rL (qr ac.params 0) T.grid.h) (fun f=>?_) fun f=>?_
  ·refine ysr<|yp 7 [] (.q6 ((qr ac.params 0)-1) .z)<|yo (zT 0 ({T with top:=((qr ac.params 0)-1)}:TS) h fun u h=>?_);refine yq 10<|yo (zT 0 ({T with top:=((qr ac.params 0)-1),bot:=T.grid.h}:TS) h fun u h=>?_);refine ye<|q7<|yq 1 ?_;have L:Lim W H ({T with top:=((qr ac.params 0)-1),bot:=T.grid.h}:TS):={hL with tb:=⟨(show(0:Int)<=((qr ac.params 0)-1) by omega),(show(((qr ac.params 0)-1):Int)<T.grid.h by omega),(show(T.grid.h:Int)<=H by omega)⟩}
   refine yo (yQ (h.met 0 fun F hA hF=>qcx hA (h.tb hg hT.tb) L (1) (1) (by constructor<;>omega) (by constructor<;>omega)) fun u h=>?_);refine yE (nB (qW ?_));refine h.tfin hg ?_;simp only[qax,q,g,j,d,k,r,s,m,v,A,n,B,C,p,f,D,↓reduceIte,Int.reduceEq,Int.reduceLT,Int.reduceLE,sB]
  refine qo (nB (qW ?_));refine h.tfin hg ?_;simp only[qax,q,g,j,d,k,r,s,m,v,A,n,B,C,p,f,D,↓reduceIte,Int.reduceEq,Int.reduceLT,Int.reduceLE,sB]
 refine q7<|yp 3 [] (.a (h.cs 1 0 6) .z)<|yo (yQ (h.met 0 fun F hA hF=>edit_at hA (h.lt hg hT) hL (h.intsF hV hF) hV8 hVb ((qr ac.params 0)) (by omega)) fun u h=>?_);refine yE (nB (qW ?_));refine h.tfin hg ?_;simp[qax, *]
end Go.Proofs.YtjjcnhgpccancaaGreatDoor.X
