/- The statement LogKeys: its row and its card, proved for every input. -/
import Derived.Test.YtjjcnhgpccancaaGreatDoorQB7
import Derived.Test.YtjjcnhgpccancaaGreatDoorTie
import Derived.Test.YtjjcnhgpccancaaGreatDoorCards
import Derived.ProofKit
import Derived.OpenShut
import Derived.LaidMore
import Derived.Lay
import Derived.SevenTiedAt
import Derived.Stop.Joined
import Derived.Below
import Derived.Carry
set_option linter.unusedSimpArgs false
set_option linter.unusedVariables false
set_option maxHeartbeats 4000000
namespace Go.Proofs.YtjjcnhgpccancaaGreatDoor.X
open Go Go.RowKit Go.Proofs.YtjjcnhgpccancaaGreatDoor
theorem qnw {t:Nat}{T:TS}{F:Nat->Prop}(e:Ev)(w:World)(hA:(qav t T).P w F)(hg:Gz w F)(hT:LT w)(hFi:Fine T)(hz:e.data.size<=1000000):Calls Tryz.prog 53 [pX t,.agg e.vals.toArray].toArray w fun x w'=>x= .returned (.tuple #[])/\qke (qav t T) (qav t (qU T e)) F w w':=by
 have h:=Sep.one hA fun b hb=>(hg.lo b hb).2;obtain⟨⟨W,H,hL⟩,hp⟩:=hFi;refine yA Tryz.func53 rfl<|ysr<|yo (zN [iX e.time,iX e.kind,.string e.data,iX e.w,iX e.h] 66 h fun u n h=>?_);refine ye<|ys<|ysr<|yp 3 [] (.l (h.c 1 1) .z)<|ye<|yc (rE e.kind 0) (fun d=>?_) fun d=>?_
 ·have j:=d;refine q7<|yp 3 [] (.l (h.c 1 2) .z)<|yo (yQ (h.met 0 fun F hA hF=>qlN hA (h.lt hg hT) hL hp e.data hz) fun u h=>?_);refine ye<|ysr<|yp 3 [] (.l (h.c 1 1) .z)<|ye<|yc (rE e.kind 2) (fun f=>?_) fun f=>?_
  ·have o:=f;exfalso;omega
  have p:=f;refine qk (qR ?_);have a:qU T e=(qgt T e.data):=by unfold qU;rw[if_pos j]
  rw[a];exact⟨rfl,h.finS hg 0⟩
 have i:=d;refine yk<|ysr<|yp 3 [] (.l (h.c 1 1) .z)<|ye<|yc (rE e.kind 2) (fun g=>?_) fun g=>?_
 ·have k:=g;refine q7<|yp 5 [] (.l (h.c 1 3) (.l (h.c 1 4) .z))<|yo (yQ (h.met 0 fun F hA hF=>qjQ hA (h.lt hg hT) hL e.w e.h) fun u h=>?_);refine yE (qR ?_);have a:qU T e=(qcz T e.w e.h):=by unfold qU;rw[if_neg i,if_pos k]
  rw[a];exact⟨rfl,h.finS hg 0⟩
 have m:=g;refine qk (qR ?_);have a:qU T e=T:=by unfold qU;rw[if_neg i,if_neg m]
 rw[a];exact⟨rfl,h.finS hg 0⟩
section
variable {w0 w:World}{F0:Nat->Prop}{l:List Asn}{t:Nat}{T:TS}
theorem Sep.app13 (h:Sep w0 F0 w l)(hg:Gz w0 F0)(hT:LT w0)(i:Nat)(e:Ev)(hFi:Fine T)(hz:e.data.size<=1000000)(hi:l[i]? =some (qav t T):=by rfl):Calls Tryz.prog 53 [pX t,.agg e.vals.toArray].toArray w fun x w'=>x= .returned (.tuple #[])/\Sep w0 F0 w' (l.set i (qav t (qU T e))):=
  h.stepA hg i (fun F hA hF=>qnw e _ hA hF (h.lt hg hT) hFi hz) hi
end
theorem fold_on {T:TS}{l:List Ev}{k n:Nat}(h:k<n):qU (qa3 T l (min k n)) (ge l k)=qa3 T l (min (k+1) n):=by
 rw[Nat.min_eq_left (by omega),Nat.min_eq_left (by omega)];rfl
theorem fold_off {T:TS}{l:List Ev}{k n:Nat}(h:¬k<n):qa3 T l (min k n)=qa3 T l (min (k+1) n):=by
 rw[Nat.min_eq_right (by omega),Nat.min_eq_right (by omega)]
theorem qf2 (p:Plan)(w:World)(hT:LT w)(h7:gTop<=w.heap.size)(hP:PlanIn w p)(hfew:p.en<=40)(n:Nat)(hn:n<=p.en):Calls Tryz.prog 24 [p.val,iX (n:Int)].toArray w fun e w'=> ∃t,e= .returned (pX t)/\NewA (qav t (qa3 p.T0 p.t n)) w w':=by
 have C:=hP.el;obtain⟨o,D⟩:=Plan.tok (p:=p) (by omega);have h:=Sep.nil w;refine yA Tryz.func24 rfl<|ysr<|yo (zN [iX p.p1,iX p.p2,.slice p.ea p.en p.ec,.slice p.ma p.mn p.mc] 26 h fun u q h=>?_);refine yz 2<|ysr<|yp 6 [] (.i 0 (2) (.l (h.c 0 0) (.i 1 (2) (.l (h.c 0 1) .z))))<|yo (yC (qeK (p.p1) (p.p2) _ (qat h.ch hT (fun _ h=>h.elim)) (Nat.le_trans h7 h.ch.size)) ?_);rintro _ u ⟨b,rfl,s,v⟩;refine⟨_,rfl,?_⟩;have h:=h.newTm (U:=p.T0) s v;refine yz 8<|ys<|ysr<|yp 1 [] (.a (h.cs 0 0 4) .z)<|yo (yC (qh4 p _ (hP.ch h.ch) hfew) ?_);rintro _ u ⟨d,f,rfl,x⟩;refine⟨_,rfl,?_⟩;have h:=h.join x;refine yz 4<|qa ?_;have h:=h.eqv (m:=[qbr q [iX p.p1,iX p.p2,.slice p.ea p.en p.ec,.slice p.ma p.mn p.mc] 26,qav b (qa3 p.T0 p.t (min 0 n)),qaz tEv 5 d p.en f (evsV p.t)]);refine qT [1,5,16,17,18] (f':=[(1,iX ((n:Nat):Int)),(5,pX b),(16,.slice (d.map at0) p.en f),(17,iX ((p.en:Nat):Int)),(18,iX 0)])<|qx (σ:=Nat) (fun k=>[(1,iX ((n:Nat):Int)),(5,pX b),(16,.slice (d.map at0) p.en f),(17,iX ((p.en:Nat):Int)),(18,iX ((k:Nat):Int))]) (fun k u=>k<=p.en/\Sep w (fun _=>False) u [qbr q [iX p.p1,iX p.p2,.slice p.ea p.en p.ec,.slice p.ma p.mn p.mc] 26,qav b (qa3 p.T0 p.t (min k n)),qaz tEv 5 d p.en f (evsV p.t)]) (fun k=>p.en-k) 0 rfl ?_ ?_
 ·exact⟨Nat.zero_le _,h.take 3⟩
 intro k u y E r;obtain⟨hk,h⟩:=y;refine yx 1<|ys<|yc (rL ((k:Nat):Int) ((p.en:Nat):Int)) (fun g=>?_) fun g=>?_
 ·have F:=g;obtain⟨G,rfl⟩:=h.isO 2;refine yk<|ys<|qa<|ysr<|yp 3 [] (.i ((k:Nat):Int) (p.en) (.m (qak (h.own 2).rd (((k:Nat):Int)) k 0 _) (.m (qak (h.own 2).rd (((k:Nat):Int)) k 1 _) (.m (qak (h.own 2).rd (((k:Nat):Int)) k 2 _) (.m (qak (h.own 2).rd (((k:Nat):Int)) k 3 _) (.m (qak (h.own 2).rd (((k:Nat):Int)) k 4 _) (.e .z)))))))<|yo (zN [iX 0,iX 0,oX,iX 0,iX 0] 66 h fun u b24 h=>?_);refine yq 5<|yo (zs h 3 fun u h=>?_);refine ye<|yx 3<|yc (rL ((k:Nat):Int) ((n:Nat):Int)) (fun j=>?_) fun j=>?_
  ·have H:=j;refine q7<|yp 2 [] (.a (h.cs 3 0 5) .z) ?_;have A:=p.ok.fold o (min k n) (by omega);have B:(ge p.t k).data.size<=1000000:=by have:=(qgI (o.evb k (by omega))).1.2;omega
   refine yo (yQ (h.app13 (gz0 h7) hT 1 (ge p.t k) A.fine B) fun u h=>?_);refine yE (nB (nS ?_));refine q7<|yp 2 [] (.q6 (((k:Nat):Int)+1) .z) ?_;have h:=h.nrm 3 [iX (ge p.t k).time,iX (ge p.t k).kind,.string (ge p.t k).data,iX (ge p.t k).w,iX (ge p.t k).h];rw[fold_on (by omega)]at h;refine yE (fun a ha=>r (k+1) _ ⟨by omega,h.take 3⟩ (by show p.en-(k+1)<p.en-k;omega) a (ha.kp [1,5,16,17,18]))
  have I:=j;refine qk (nB (nS ?_));refine q7<|yp 2 [] (.q6 (((k:Nat):Int)+1) .z) ?_;have h:=h.nrm 3 [iX (ge p.t k).time,iX (ge p.t k).kind,.string (ge p.t k).data,iX (ge p.t k).w,iX (ge p.t k).h];rw[fold_off (by omega)]at h;refine yE (fun a ha=>r (k+1) _ ⟨by omega,h.take 3⟩ (by show p.en-(k+1)<p.en-k;omega) a (ha.kp [1,5,16,17,18]))
 have J:=g;refine ql (eS (qd (qb (nS ?_))));refine yx 2<|q9 (yR1 (pX b) ?_);obtain rfl:k=p.en:=by omega
 rw[Nat.min_eq_right hn]at h;exact⟨_,rfl,h.finN 1⟩
end Go.Proofs.YtjjcnhgpccancaaGreatDoor.X
namespace Go.Proofs.YtjjcnhgpccancaaGreatDoor.X
open Go Go.RowKit Go.Proofs.YtjjcnhgpccancaaGreatDoor
theorem keys13_any (p:Plan)(w:World)(hT:LT w)(h7:gTop<=w.heap.size)(hP:PlanIn w p):Calls Tryz.prog 5 [p.val].toArray w fun e w'=>e= .returned (.bool true)/\Ch (fun _=>False) w w':=by
 have h:=Sep.nil w;refine yA Tryz.func5 rfl<|ysr<|yo (zN [iX p.p1,iX p.p2,.slice p.ea p.en p.ec,.slice p.ma p.mn p.mc] 26 h fun u E h=>?_);refine yz 2<|ys<|ysr<|yo (yQ (h.look (qh6 _ (qat h.ch hT (fun _ h=>h.elim)) (Nat.le_trans h7 h.ch.size))) fun u h=>?_);refine yz 2<|ycf<|yk<|ys<|ysr<|yp 1 [] (.a (h.cs 0 0 4) .z)<|yo (yC (qj2 p _) ?_);rintro _ u ⟨a4,rfl,a5,a6⟩;refine⟨_,rfl,?_⟩;have h:=h.same a6;refine yz 3<|yc (rN (rY a4)) (fun K=>?_) fun K=>?_
 ·have ay:=K;refine yx 1<|q9 (rS (yR1 (.bool true) ?_));exact⟨rfl,h.ch⟩
 have a7:=K;obtain⟨F,az⟩:=a5.1 a7;obtain⟨G,aA⟩:=Plan.tok (p:=p) (by have:=hP.el;omega);have aB:=hP.el;have aC:p.t.length=p.en:=by omega
 refine yk<|ysr<|yp 1 [] (.a (h.cs 0 0 4) .z)<|yo (yC (qfx p _ (qat h.ch hT (fun _ h=>h.elim)) (Nat.le_trans h7 h.ch.size) (hP.ch h.ch) F) ?_);rintro _ u ⟨A,x1,B,rfl,a9⟩;refine⟨_,rfl,?_⟩;have h:=h.join a9;obtain⟨d,S⟩:∃r,r=qdU p.T0 p.t p.en:=⟨_,rfl⟩
 rw[<-S]at h;have H:BuiltF p d:=S▸qli hP.el F;have aD:=H.el;have aE:=H.kl;obtain⟨j,n,o,s,v,C,g,f,y⟩:=x1;refine yz 3<|ys<|qaJ ([(1,pX E),(3,pX A),(38,.bool (!((qf (d.start)).toList==(qf (qN (qa3 p.T0 p.t 0))).toList)))]) (fun u=>Sep w (fun _=>False) u [qbr E [iX p.p1,iX p.p2,.slice p.ea p.en p.ec,.slice p.ma p.mn p.mc] 26,qbr A (recC ⟨j,n,o,s,v,C,g,f,y⟩ d B) qw,qaz tEv 5 s d.evs.length v (evsV d.evs),qaz qgS 2 C d.keys.length g (qaL f d.keys 0),roA (roL ⟨j,n,o,s,v,C,g,f,y⟩ d),qdT (ScOk ⟨j,n,o,s,v,C,g,f,y⟩ d)]) (fun aF I=>?_) (fun u h=>?_)
 ·refine zDC [] [0,1,2,3,4,5] h fun u h=>?_;refine ydF (uL 0 15) [] h.on (fun u h=>(.l (h.rcx 1 (b:=A) (r:=d) ⟨j,n,o,s,v,C,g,f,y⟩ B qw).c2 (.l (h.c 0 2) (.p (q:=0<=(((p.en:Nat):Int):Int)/\0<(8:Int)) (by constructor<;>omega) (.q6 (((p.en:Nat):Int)/8) .z))))) ?_;refine yv [27] (rI ((d.keys.length:Nat):Int) (((p.en:Nat):Int)/8)) (fun L=>?_) fun L=>?_
  ·have aG:=L;exfalso;omega
  have aH:=L;refine ydF [15,16,17,18,20] [] h.on (fun u h=>(.l (h.rcx 1 (b:=A) (r:=d) ⟨j,n,o,s,v,C,g,f,y⟩ B qw).c0 (.a (h.cs 0 0 4) .z)))<|qa4 19 21 (by kernel_rfl) (by decide) ?_ ?_
  ·refine qF 19 _ (by kernel_rfl) rfl (qp j n o (d.start) (some 32) (by kernel_rfl) ((h.rcx 1 (b:=A) (r:=d) ⟨j,n,o,s,v,C,g,f,y⟩ B qw).st) ((h.rcx 1 (b:=A) (r:=d) ⟨j,n,o,s,v,C,g,f,y⟩ B qw).sl) ?_);refine zH h<|yH 21 (yC (qf2 p _ (qat h.ch hT (fun _ h=>h.elim)) (Nat.le_trans h7 h.ch.size) (hP.ch h.ch) F 0 (by omega)) ?_);rintro _ u ⟨aI,rfl,aa⟩;refine⟨_,rfl,?_⟩;have h:=h.addN aa;refine zHa h<|yH 22 (yC (h.encT 6 (p.ok.fold G 0 (by omega)).dec.enc) ?_);rintro _ u ⟨ab,T,ac,rfl,h⟩;refine⟨_,rfl,?_⟩;have ad:(qN (qa3 p.T0 p.t 0)).length=T:=by have:=h.len1 7;rwa[List.length_map]at this
   refine zHa h<|yH 23 (qp (ab.map at0) T ac (qN (qa3 p.T0 p.t 0)) (some 36) (by kernel_rfl) (h.ownRd' 7) ad ?_);refine zH h<|ydF [24,25] [] h.on (fun u h=> .z)<|yDe (fun a ha=>I _ (h.take 6) a (ha.kp [1,3,38]))
  refine qF 21 _ (by kernel_rfl) rfl (yC (qf2 p _ (qat h.ch hT (fun _ h=>h.elim)) (Nat.le_trans h7 h.ch.size) (hP.ch h.ch) F 0 (by omega)) ?_);rintro _ u ⟨aJ,rfl,ae⟩;refine⟨_,rfl,?_⟩;have h:=h.addN ae;refine zHa h<|qa4 19 22 (by kernel_rfl) (by decide) ?_ ?_
  ·refine qF 19 _ (by kernel_rfl) rfl (qp j n o (d.start) (some 32) (by kernel_rfl) ((h.rcx 1 (b:=A) (r:=d) ⟨j,n,o,s,v,C,g,f,y⟩ B qw).st) ((h.rcx 1 (b:=A) (r:=d) ⟨j,n,o,s,v,C,g,f,y⟩ B qw).sl) ?_);refine zH h<|yH 22 (yC (h.encT 6 (p.ok.fold G 0 (by omega)).dec.enc) ?_);rintro _ u ⟨af,U,ag,rfl,h⟩;refine⟨_,rfl,?_⟩;have ah:(qN (qa3 p.T0 p.t 0)).length=U:=by have:=h.len1 7;rwa[List.length_map]at this
   refine zHa h<|yH 23 (qp (af.map at0) U ag (qN (qa3 p.T0 p.t 0)) (some 36) (by kernel_rfl) (h.ownRd' 7) ah ?_);refine zH h<|ydF [24,25] [] h.on (fun u h=> .z)<|yDe (fun a ha=>I _ (h.take 6) a (ha.kp [1,3,38]))
  refine qF 22 _ (by kernel_rfl) rfl (yC (h.encT 6 (p.ok.fold G 0 (by omega)).dec.enc) ?_);rintro _ u ⟨V,M,W,rfl,h⟩;refine⟨_,rfl,?_⟩;have X:(qN (qa3 p.T0 p.t 0)).length=M:=by have:=h.len1 7;rwa[List.length_map]at this
  refine zHa h<|qa4 19 23 (by kernel_rfl) (by decide) ?_ ?_
  ·refine qF 19 _ (by kernel_rfl) rfl (qp j n o (d.start) (some 32) (by kernel_rfl) ((h.rcx 1 (b:=A) (r:=d) ⟨j,n,o,s,v,C,g,f,y⟩ B qw).st) ((h.rcx 1 (b:=A) (r:=d) ⟨j,n,o,s,v,C,g,f,y⟩ B qw).sl) ?_);refine zH h<|yH 23 (qp (V.map at0) M W (qN (qa3 p.T0 p.t 0)) (some 36) (by kernel_rfl) (h.ownRd' 7) X ?_);refine zH h<|ydF [24,25] [] h.on (fun u h=> .z)<|yDe (fun a ha=>I _ (h.take 6) a (ha.kp [1,3,38]))
  refine qF 23 _ (by kernel_rfl) rfl (qp (V.map at0) M W (qN (qa3 p.T0 p.t 0)) (some 36) (by kernel_rfl) (h.ownRd' 7) X ?_);refine zH h<|yH 19 (qp j n o (d.start) (some 32) (by kernel_rfl) ((h.rcx 1 (b:=A) (r:=d) ⟨j,n,o,s,v,C,g,f,y⟩ B qw).st) ((h.rcx 1 (b:=A) (r:=d) ⟨j,n,o,s,v,C,g,f,y⟩ B qw).sl) ?_);refine zH h<|ydF [24,25] [] h.on (fun u h=> .z)<|yDe (fun a ha=>I _ (h.take 6) a (ha.kp [1,3,38]))
 refine yc (rN (rY ((qf (d.start)).toList==(qf (qN (qa3 p.T0 p.t 0))).toList))) (fun N=>?_) fun N=>?_
 ·have ai:=N;exact absurd (by rw[H.st];exact beq_self_eq_true _) (Bool.eq_false_iff.1 ai)
 have aK:=N;refine yk<|ys<|ysr<|yp 6 [] (.l (h.rcx 1 (b:=A) (r:=d) ⟨j,n,o,s,v,C,g,f,y⟩ B qw).c2 .z)<|ye<|qa ?_;have h:=h.ord [0,1,2,3,4,5];refine qT [1,42,43,44] (f':=[(1,pX E),(42,.slice (C.map at0) d.keys.length g),(43,iX ((d.keys.length:Nat):Int)),(44,iX 0)])<|qx (σ:=Nat) (fun k=>[(1,pX E),(42,.slice (C.map at0) d.keys.length g),(43,iX ((d.keys.length:Nat):Int)),(44,iX ((k:Nat):Int))]) (fun k u=>k<=d.keys.length/\Sep w (fun _=>False) u [qbr E [iX p.p1,iX p.p2,.slice p.ea p.en p.ec,.slice p.ma p.mn p.mc] 26,qbr A (recC ⟨j,n,o,s,v,C,g,f,y⟩ d B) qw,qaz tEv 5 s d.evs.length v (evsV d.evs),qaz qgS 2 C d.keys.length g (qaL f d.keys 0),roA (roL ⟨j,n,o,s,v,C,g,f,y⟩ d),qdT (ScOk ⟨j,n,o,s,v,C,g,f,y⟩ d)]) (fun k=>d.keys.length-k) 0 rfl ?_ ?_
 ·exact⟨Nat.zero_le _,h.eqv⟩
 intro k u aj aL ak;obtain⟨hk,h⟩:=aj;refine yx 1<|ys<|yc (rL ((k:Nat):Int) ((d.keys.length:Nat):Int)) (fun O=>?_) fun O=>?_
 ·have aM:=O;obtain⟨D,rfl⟩:=(h.rcx 1 (b:=A) (r:=d) ⟨j,n,o,s,v,C,g,f,y⟩ B qw).kb (by omega);have Y:=H.kg k (by omega);have aN:(gky d.keys k).after=8*(k+1):=by rw[Y]
  have al:(gky d.keys k).state=qN (qa3 p.T0 p.t (gky d.keys k).after):=by rw[Y]
  refine yk<|ys<|qa<|ysr<|yp 3 [] (.i ((k:Nat):Int) (d.keys.length) (.m ((h.rcx 1 (b:=A) (r:=d) ⟨j,n,o,s,v,some D,g,f,y⟩ B qw).kyx (x:=((k:Nat):Int)) (i:=k) (by omega) (by omega)).1 (.m ((h.rcx 1 (b:=A) (r:=d) ⟨j,n,o,s,v,some D,g,f,y⟩ B qw).kyx (x:=((k:Nat):Int)) (i:=k) (by omega) (by omega)).2 (.e .z))))<|yo (zN [iX 0,nX] 51 h fun u am h=>?_);refine yq 5<|yo (zs h 6 fun u h=>?_);refine ye ?_;have h:=h.nrm 6 [iX (((gky d.keys k).after:Nat):Int),.slice (f k).1 (f k).2.1 (f k).2.2];refine qaJ ([(1,pX E),(42,.slice (some ⟨D,0,none⟩) d.keys.length g),(43,iX ((d.keys.length:Nat):Int)),(44,iX ((k:Nat):Int)),(66,.bool (!((qf ((gky d.keys k).state)).toList==(qf (qN (qa3 p.T0 p.t (gky d.keys k).after))).toList)))]) (fun u=>Sep w (fun _=>False) u [qbr E [iX p.p1,iX p.p2,.slice p.ea p.en p.ec,.slice p.ma p.mn p.mc] 26,qbr A (recC ⟨j,n,o,s,v,some D,g,f,y⟩ d B) qw,qaz tEv 5 s d.evs.length v (evsV d.evs),qaz qgS 2 (some D) d.keys.length g (qaL f d.keys 0),roA (roL ⟨j,n,o,s,v,some D,g,f,y⟩ d),qdT (ScOk ⟨j,n,o,s,v,some D,g,f,y⟩ d),qbr am [iX (((gky d.keys k).after:Nat):Int),.slice (f k).1 (f k).2.1 (f k).2.2] 51]) (fun aO J=>?_) (fun u h=>?_)
  ·refine zDC [] [0,1,2,3,4,5,6] h fun u h=>ydF (uL 0 7) [] h.on (fun u h=>(.l (h.c 6 0) (.q6 (((k:Nat):Int)+1) (.q6 (8*(((k:Nat):Int)+1)) .z))))<|yv [55] (rI (((gky d.keys k).after:Nat):Int) (8*(((k:Nat):Int)+1))) (fun P=>?_) fun P=>?_
   ·have aP:=P;exfalso;omega
   have aQ:=P;refine ydF [7,8,10,11,12] [] h.on (fun u h=>(.l (h.c 6 1) (.a (h.cs 0 0 4) (.l (h.c 6 0) .z))))<|qa4 9 13 (by kernel_rfl) (by decide) ?_ ?_
   ·refine qF 9 _ (by kernel_rfl) rfl (qp (f k).1 (f k).2.1 (f k).2.2 ((gky d.keys k).state) (some 58) (by kernel_rfl) ((h.rcx 1 (b:=A) (r:=d) ⟨j,n,o,s,v,some D,g,f,y⟩ B qw).kr k (by omega)).1 ((h.rcx 1 (b:=A) (r:=d) ⟨j,n,o,s,v,some D,g,f,y⟩ B qw).kr k (by omega)).2.1 ?_);refine zH h<|yH 13 (yC (qf2 p _ (qat h.ch hT (fun _ h=>h.elim)) (Nat.le_trans h7 h.ch.size) (hP.ch h.ch) F (gky d.keys k).after (by omega)) ?_);rintro _ u ⟨aR,rfl,an⟩;refine⟨_,rfl,?_⟩;have h:=h.addN an;refine zHa h<|yH 14 (yC (h.encT 7 (p.ok.fold G (gky d.keys k).after (by omega)).dec.enc) ?_);rintro _ u ⟨ao,Z,ap,rfl,h⟩;refine⟨_,rfl,?_⟩;have aq:(qN (qa3 p.T0 p.t (gky d.keys k).after)).length=Z:=by have:=h.len1 8;rwa[List.length_map]at this
    refine zHa h<|yH 15 (qp (ao.map at0) Z ap (qN (qa3 p.T0 p.t (gky d.keys k).after)) (some 64) (by kernel_rfl) (h.ownRd' 8) aq ?_);refine zH h<|ydF [16,17] [] h.on (fun u h=> .z)<|yDe (fun a ha=>J _ (h.take 7) a (ha.kp [1,42,43,44,66]))
   refine qF 13 _ (by kernel_rfl) rfl (yC (qf2 p _ (qat h.ch hT (fun _ h=>h.elim)) (Nat.le_trans h7 h.ch.size) (hP.ch h.ch) F (gky d.keys k).after (by omega)) ?_);rintro _ u ⟨aS,rfl,ar⟩;refine⟨_,rfl,?_⟩;have h:=h.addN ar;refine zHa h<|qa4 9 14 (by kernel_rfl) (by decide) ?_ ?_
   ·refine qF 9 _ (by kernel_rfl) rfl (qp (f k).1 (f k).2.1 (f k).2.2 ((gky d.keys k).state) (some 58) (by kernel_rfl) ((h.rcx 1 (b:=A) (r:=d) ⟨j,n,o,s,v,some D,g,f,y⟩ B qw).kr k (by omega)).1 ((h.rcx 1 (b:=A) (r:=d) ⟨j,n,o,s,v,some D,g,f,y⟩ B qw).kr k (by omega)).2.1 ?_);refine zH h<|yH 14 (yC (h.encT 7 (p.ok.fold G (gky d.keys k).after (by omega)).dec.enc) ?_);rintro _ u ⟨au,a0,av,rfl,h⟩;refine⟨_,rfl,?_⟩;have aw:(qN (qa3 p.T0 p.t (gky d.keys k).after)).length=a0:=by have:=h.len1 8;rwa[List.length_map]at this
    refine zHa h<|yH 15 (qp (au.map at0) a0 av (qN (qa3 p.T0 p.t (gky d.keys k).after)) (some 64) (by kernel_rfl) (h.ownRd' 8) aw ?_);refine zH h<|ydF [16,17] [] h.on (fun u h=> .z)<|yDe (fun a ha=>J _ (h.take 7) a (ha.kp [1,42,43,44,66]))
   refine qF 14 _ (by kernel_rfl) rfl (yC (h.encT 7 (p.ok.fold G (gky d.keys k).after (by omega)).dec.enc) ?_);rintro _ u ⟨a1,Q,a2,rfl,h⟩;refine⟨_,rfl,?_⟩;have a3:(qN (qa3 p.T0 p.t (gky d.keys k).after)).length=Q:=by have:=h.len1 8;rwa[List.length_map]at this
   refine zHa h<|qa4 9 15 (by kernel_rfl) (by decide) ?_ ?_
   ·refine qF 9 _ (by kernel_rfl) rfl (qp (f k).1 (f k).2.1 (f k).2.2 ((gky d.keys k).state) (some 58) (by kernel_rfl) ((h.rcx 1 (b:=A) (r:=d) ⟨j,n,o,s,v,some D,g,f,y⟩ B qw).kr k (by omega)).1 ((h.rcx 1 (b:=A) (r:=d) ⟨j,n,o,s,v,some D,g,f,y⟩ B qw).kr k (by omega)).2.1 ?_);refine zH h<|yH 15 (qp (a1.map at0) Q a2 (qN (qa3 p.T0 p.t (gky d.keys k).after)) (some 64) (by kernel_rfl) (h.ownRd' 8) a3 ?_);refine zH h<|ydF [16,17] [] h.on (fun u h=> .z)<|yDe (fun a ha=>J _ (h.take 7) a (ha.kp [1,42,43,44,66]))
   refine qF 15 _ (by kernel_rfl) rfl (qp (a1.map at0) Q a2 (qN (qa3 p.T0 p.t (gky d.keys k).after)) (some 64) (by kernel_rfl) (h.ownRd' 8) a3 ?_);refine zH h<|yH 9 (qp (f k).1 (f k).2.1 (f k).2.2 ((gky d.keys k).state) (some 58) (by kernel_rfl) ((h.rcx 1 (b:=A) (r:=d) ⟨j,n,o,s,v,some D,g,f,y⟩ B qw).kr k (by omega)).1 ((h.rcx 1 (b:=A) (r:=d) ⟨j,n,o,s,v,some D,g,f,y⟩ B qw).kr k (by omega)).2.1 ?_);refine zH h<|ydF [16,17] [] h.on (fun u h=> .z)<|yDe (fun a ha=>J _ (h.take 7) a (ha.kp [1,42,43,44,66]))
  refine yc (rN (rY ((qf ((gky d.keys k).state)).toList==(qf (qN (qa3 p.T0 p.t (gky d.keys k).after))).toList))) (fun R=>?_) fun R=>?_
  ·have ax:=R;exact absurd (by rw[al];exact beq_self_eq_true _) (Bool.eq_false_iff.1 ax)
  have aT:=R;refine qk (nB (nS ?_));refine q7<|yp 2 [] (.q6 (((k:Nat):Int)+1) .z)<|yE (fun a ha=>ak (k+1) _ ⟨by omega,h.take 6⟩ (by show d.keys.length-(k+1)<d.keys.length-k;omega) a (ha.kp [1,42,43,44]))
 have aU:=O;refine ql (eS (qd (qb (nS ?_))));refine yx 1<|q9 (yR1 (.bool true) ?_);exact⟨rfl,h.ch⟩
end Go.Proofs.YtjjcnhgpccancaaGreatDoor.X
namespace Go.Proofs.YtjjcnhgpccancaaGreatDoor
open Go.ChangeShapes Go.WideShapes Go.ChangeAt Go.RowKit
set_option maxRecDepth 100000 in
theorem logKeys_lifted (os:Os)(started:os.Started)(H:Type)(enc:TypeId×Value->H):
    ReturnsInHanded {} Tryz.checked os 5 .any (fun w args=>(Rows.logKeysSpec.pre enc Tryz.prog Tryz.f5 [] false w args/\laidMetH Tryz.prog Rows.logKeysRow.laid w)/\sizedMet enc Tryz.prog Tryz.f5 (OpenSpec.ofChange Rows.logKeysSpec) false w args)
      (Rows.logKeysSpec.post enc Tryz.prog Tryz.f5 false true false false):=by
  refine returnsInHanded_of_change_and (C:=Tryz.checked) (X:=fun w _=>laidMetH Tryz.prog Rows.logKeysRow.laid w) (fun _ _ _ hh h=>h.of_heap hh) qec started (by kernel_rfl) Tryz.func5
    (ChangeSpec.witness_shaped (enc:=enc) (C:=Tryz.checked) (os:=os) (X:=fun w _=>laidMetH Tryz.prog Rows.logKeysRow.laid w) false (World.laidAll Tryz.prog os qky) #[.agg #[.int .i64 0,.int .i64 0,.slice none 0 0,.slice none 0 0]] 8 (World.laidAll_os _ _ _) (qfy os) (by kernel_rfl) (by kernel_rfl) (by kernel_rfl) (qlk os _)) ?_
  intro W base args ds gs before hval0 hW _ _ hL _
  have hval:∀(j:Nat) t v,Tryz.f5.params[j]? =some t->args[j]? =some v->Value.okWide Tryz.prog W .any base t v:=hval0
  have hW':=hW
  obtain⟨p,q,hA0,hV,rfl,hfz,hnd⟩:=hW
  have hA:DataW.TrodAll enc Tryz.prog W 0 (fun _=>true) true Tryz.f5.params.toList args.toList ds p:=hA0
  rw[Tryz.params5]at hA hval
  obtain⟨v0,vs0,d0,ds0,p0,q0,hargs,rfl,rfl,h0,r0⟩:=trodAll_cons hA
  obtain⟨rfl,rfl,rfl⟩:=trodAll_nil r0
  obtain rfl:args= #[v0]:=by cases args;simp_all
  obtain⟨rfl,rfl⟩:=trodVars_none hV
  obtain⟨a0,rfl,e0⟩:=qh8 (hval 0 26 v0 rfl rfl) h0
  clear hA0 hval0
  have hlt:=DataW.Whole.lt hW'
  refine(X.keys13_any a0 W (qfz hL) (qee hL) e0).mono fun e W' ⟨he,hc⟩=>?_
  have bel:=qed hc
  subst he
  exact⟨_,rfl,_,_,_,[],_,[],hW',trodAll_mk1 (shut_bool Tryz.underlying4 _),(trodAll_cons_mk (Below.trod (by kernel_rfl) (by kernel_rfl) (of_decide_eq_true (by kernel_rfl)) h0 bel (fun x hx=>hlt x (by simp[hx]))) trodAll_mk0),rfl,bel.frame _,fun h=>by cases h⟩
theorem logKeys_holds:Rows.LogKeysSaid:=
  OpenClaim.holds_of_wide 5 Tryz.f5 rfl rfl rfl rfl rfl rfl rfl ⟨rfl,rfl,rfl,rfl,rfl⟩ rfl rfl rfl rfl rfl (by kernel_rfl) Tryz.func5 (by kernel_rfl)
    (of_decide_eq_true (by kernel_rfl)) (by unfold Func.isWrapper;first|(rw[if_pos (by decide+kernel)];kernel_rfl)|(rw[if_neg (by decide+kernel)];exact⟨rfl,rfl⟩))
    (fun os started H enc _=>logKeys_lifted os started H enc)
theorem logKeys_card_holds:Rows.LogKeysCardSaid:=
  Claim7.holds_tied_plain_at .later [] [.data,.data,.data,.data,.data,.data,.pinned] true (true,"2b54949b506e2926f88e7eea2b840edd9a6a7340db8b0d167da3910ee1a9c266") false
    logKeys_holds (fun _ h=>by cases h) (by kernel_rfl) (fun _ h=>by cases h) logKeys_row_tie rfl ⟨rfl,rfl⟩ (by kernel_rfl) rfl
    (fun f fn hf hfn=>by
      obtain rfl:f=5:=Option.some.inj ((show Tryz.prog.funcNamed "flipbook/flipbooklaw13.LogKeys" =some 5 by kernel_rfl).symm.trans hf)|>.symm
      obtain rfl:fn=Tryz.f5:=(Option.some.inj (Tryz.func5.symm.trans hfn)).symm
      exact⟨by kernel_rfl,fun j t ht=>by
        rw[Tryz.params5]at ht
        have hm:t∈[26]:=by simpa using Array.mem_of_getElem? ht
        have hall:([26].all fun u=> !Tryz.prog.wantsStandIn u)=true:=by kernel_rfl
        exact(show Tryz.prog.wantsStandIn t=false by simpa using List.all_eq_true.1 hall t hm)⟩)
    (by kernel_rfl)
#print axioms logKeys_card_holds
end Go.Proofs.YtjjcnhgpccancaaGreatDoor
