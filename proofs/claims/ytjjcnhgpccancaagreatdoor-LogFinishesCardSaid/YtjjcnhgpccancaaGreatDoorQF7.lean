/- What the proofs of LogFinishes need, part 7: the walks of the program's functions and the plain laws about them. -/
import Derived.Test.YtjjcnhgpccancaaGreatDoorQF6
import Derived.Test.YtjjcnhgpccancaaGreatDoorRows
import Derived.ProofKit
import Derived.OpenShut
import Derived.ChangeArms
import Derived.LaidMore
import Derived.Lay
import Derived.Stop.Joined
import Derived.Below
import Derived.SevenTiedAt
import Derived.Deep.Slices
import Derived.Carry
set_option linter.unusedSimpArgs false
set_option linter.unusedVariables false
set_option maxHeartbeats 4000000
namespace Go.Proofs.YtjjcnhgpccancaaGreatDoor.X
open Go Go.RowKit Go.Proofs.YtjjcnhgpccancaaGreatDoor
theorem qnT (b1:Nat){sa1:Option Addr}{sn1 sc1:Nat}{eo1:Option Nat}{ec1:Nat}{ko1:Option Nat}{kc1:Nat}{kx1:Nat->Option Addr×Nat×Nat}{r1:Rc}(b2:Nat){sa2:Option Addr}{sn2 sc2:Nat}{eo2:Option Nat}{ec2:Nat}{ko2:Option Nat}{kc2:Nat}{kx2:Nat->Option Addr×Nat×Nat}{r2:Rc}(w:World)(hR1:RcRd w b1 sa1 sn1 sc1 eo1 ec1 ko1 kc1 kx1 r1)(hR2:RcRd w b2 sa2 sn2 sc2 eo2 ec2 ko2 kc2 kx2 r2)(hW1:RcB r1)(hW2:RcB r2):CP 22 [pX b1,pX b2].toArray w fun e w'=> ∃r:Bool,e= .returned (.bool r)/\(r=true↔r1=r2)/\Ch (fun _=>False) w w':=by
 have a2:=hR1.en;have a3:=hR2.en;have h:=Sep.nil w;refine yA Tryz.func22 rfl<|yx 1<|ys<|qdQ (σ:=Bool) (fun gs=>[(0,pX b1),(1,pX b2),(50,.bool gs)]) (fun gs u=>(gs=true-> ¬r1=r2)/\(gs=false->r1.start=r2.start/\r1.evs=r2.evs/\r1.keys.length=r2.keys.length)/\Sep w (fun _=>False) u []) (fun a4 b=>?_) (fun gs u h=>?_)
 ·refine zDC [28] [] h fun u h=>ydF [0,1,2,3,4,5,6,7,8,9,10,12,13,14,15] [] h.on (fun u h=>(.l (hR1.ch h.ch).c0 (.l (hR2.ch h.ch).c0 .z)))<|qas 11 16 (by kernel_rfl) (by decide) ?_ ?_
  ·refine qa4 11 _ (by kernel_rfl) rfl (qE sa1 sn1 sc1 (r1.start) (some 18) (by kernel_rfl) ((hR1.ch h.ch).st) ((hR1.ch h.ch).sl) ?_);refine zH h<|yH 16 (qE sa2 sn2 sc2 (r2.start) (some 23) (by kernel_rfl) ((hR2.ch h.ch).st) ((hR2.ch h.ch).sl) ?_);refine zH h<|ydF (uL 17 3) [] h.on (fun u h=> .z)<|yv [26] (rN (rY (((qf (r1.start))).toList==((qf (r2.start))).toList))) (fun d=>?_) fun d=>?_
   ·have E:=d;refine ydF (uL 20 24) [] h.on (fun u h=> .z)<|yDe (fun a ha=>b true _ ⟨fun e=>(fun q=>absurd ((qx hW1.st.1 hW2.st.1).trans (j1 (by rw[q]))) (iY.1 E)),fun e=>(by cases e),h.take 0⟩ a (ha.kp [0,1,50]))
   have F:=d;refine ydF (uL 20 8) [] h.on (fun u h=>(.l (hR1.ch h.ch).c1 (.l (hR2.ch h.ch).c1 .z)))<|yK 28 (yC (qi9 (eo1.map at0) (eo2.map at0) r1.evs.length r2.evs.length ec1 ec2 r1.evs r2.evs _ (hR1.ch h.ch).ev (hR2.ch h.ch).ev rfl rfl (hR1.ch h.ch).ez (hR2.ch h.ch).ez (by omega) (by omega)) ?_);rintro _ u ⟨G,rfl,B,H⟩;refine⟨_,rfl,?_⟩;have h:=h.same H;refine q8<|yd (uL 29 3) [] .z<|yv [38] (rN (rY G)) (fun f=>?_) fun f=>?_
   ·have I:=f;refine yd (uL 32 12) [] .z<|yDe (fun a ha=>b true _ ⟨fun e=>(fun q=>absurd (B.2 (by rw[q])) (iY.1 I)),fun e=>(by cases e),h.take 0⟩ a (ha.kp [0,1,50]))
   have J:=f;refine yd (uL 32 12) [] (.l (hR1.ch h.ch).c2 (.l (hR2.ch h.ch).c2 .z))<|yDe (fun a ha=>b (((r1.keys.length:Int):Int) !=(r2.keys.length:Int)) _ ⟨fun e=>(fun q=>by rw[q]at e;simp at e),fun e=>(⟨iK ((qx hW1.st.1 hW2.st.1).symm.trans F),B.1 J,by have q:(r1.keys.length:Int)=r2.keys.length:=(by simpa using e);omega⟩),h.take 0⟩ a (ha.kp [0,1,50]))
  refine qa4 16 _ (by kernel_rfl) rfl (qE sa2 sn2 sc2 (r2.start) (some 23) (by kernel_rfl) ((hR2.ch h.ch).st) ((hR2.ch h.ch).sl) ?_);refine zH h<|yH 11 (qE sa1 sn1 sc1 (r1.start) (some 18) (by kernel_rfl) ((hR1.ch h.ch).st) ((hR1.ch h.ch).sl) ?_);refine zH h<|ydF (uL 17 3) [] h.on (fun u h=> .z)<|yv [26] (rN (rY (((qf (r1.start))).toList==((qf (r2.start))).toList))) (fun g=>?_) fun g=>?_
  ·have K:=g;refine ydF (uL 20 24) [] h.on (fun u h=> .z)<|yDe (fun a ha=>b true _ ⟨fun e=>(fun q=>absurd ((qx hW1.st.1 hW2.st.1).trans (j1 (by rw[q]))) (iY.1 K)),fun e=>(by cases e),h.take 0⟩ a (ha.kp [0,1,50]))
  have L:=g;refine ydF (uL 20 8) [] h.on (fun u h=>(.l (hR1.ch h.ch).c1 (.l (hR2.ch h.ch).c1 .z)))<|yK 28 (yC (qi9 (eo1.map at0) (eo2.map at0) r1.evs.length r2.evs.length ec1 ec2 r1.evs r2.evs _ (hR1.ch h.ch).ev (hR2.ch h.ch).ev rfl rfl (hR1.ch h.ch).ez (hR2.ch h.ch).ez (by omega) (by omega)) ?_);rintro _ u ⟨M,rfl,C,N⟩;refine⟨_,rfl,?_⟩;have h:=h.same N;refine q8<|yd (uL 29 3) [] .z<|yv [38] (rN (rY M)) (fun n=>?_) fun n=>?_
  ·have O:=n;refine yd (uL 32 12) [] .z<|yDe (fun a ha=>b true _ ⟨fun e=>(fun q=>absurd (C.2 (by rw[q])) (iY.1 O)),fun e=>(by cases e),h.take 0⟩ a (ha.kp [0,1,50]))
  have P:=n;refine yd (uL 32 12) [] (.l (hR1.ch h.ch).c2 (.l (hR2.ch h.ch).c2 .z))<|yDe (fun a ha=>b (((r1.keys.length:Int):Int) !=(r2.keys.length:Int)) _ ⟨fun e=>(fun q=>by rw[q]at e;simp at e),fun e=>(⟨iK ((qx hW1.st.1 hW2.st.1).symm.trans L),C.1 P,by have q:(r1.keys.length:Int)=r2.keys.length:=(by simpa using e);omega⟩),h.take 0⟩ a (ha.kp [0,1,50]))
 obtain⟨o,p,h⟩:=h;refine yc (rY gs) (fun s=>?_) fun s=>?_
 ·have Q:=s;refine yx 1<|q9 (rS (yR1 (xF) ?_));exact⟨_,rfl,⟨fun e=>(by cases e),fun e=>absurd e (o Q)⟩,h.ch⟩
 have R:=s;obtain⟨S,T,U⟩:=p R;refine yk<|ys<|ysr<|yp 6 [] (.l (hR1.ch h.ch).c2 .z)<|ye<|qa<|qV [1,54,55,56] (f':=[(1,pX b2),(54,.slice (ko1.map at0) r1.keys.length kc1),(55,iX (r1.keys.length:Int)),(56,iX 0)])<|qw (σ:=Nat) (fun k=>[(1,pX b2),(54,.slice (ko1.map at0) r1.keys.length kc1),(55,iX (r1.keys.length:Int)),(56,iX (k:Int))]) (fun k u=>k<=r1.keys.length/\(∀j,j<k->gky r1.keys j=gky r2.keys j)/\Sep w (fun _=>False) u []) (fun k=>r1.keys.length-k) 0 rfl ?_ ?_
 ·exact⟨ir _,fun j hj=>absurd hj (j0 j),h.take 0⟩
 intro k u V a5 W;obtain⟨hk,hE,h⟩:=V;refine yx 1<|ys<|yc (rL (k:Int) (r1.keys.length:Int)) (fun t=>?_) fun t=>?_
 ·have a6:=t;obtain⟨X,rfl⟩:=(hR1.ch h.ch).kb (by omega);obtain⟨a7,rfl⟩:=(hR2.ch h.ch).kb (by omega);refine yk<|ys<|qa<|ysr<|yp 3 [] (.i (k:Int) (r1.keys.length) (.m ((hR1.ch h.ch).kyx (x:=(k:Int)) (i:=k) (by omega) (by omega)).1 (.m ((hR1.ch h.ch).kyx (x:=(k:Int)) (i:=k) (by omega) (by omega)).2 (.e .z))))<|yo (zN [iX 0,nX] 51 h fun u Y h=>?_);refine yq 5<|yo (zs h 0 fun u h=>?_);refine ye ?_;have h:=h.nrm 0 [iX (((gky r1.keys k).after:Nat):Int),.slice (kx1 k).1 (kx1 k).2.1 (kx1 k).2.2];refine qdQ (σ:=Bool) (fun gs=>[(1,pX b2),(54,.slice (some ⟨X,0,none⟩) r1.keys.length kc1),(55,iX (r1.keys.length:Int)),(56,iX (k:Int)),(86,.bool gs)]) (fun gs u=>(gs=true-> ¬gky r1.keys k=gky r2.keys k)/\(gs=false->gky r1.keys k=gky r2.keys k)/\Sep w (fun _=>False) u [qbB Y [iX (((gky r1.keys k).after:Nat):Int),.slice (kx1 k).1 (kx1 k).2.1 (kx1 k).2.2] 51]) (fun a8 v=>?_) (fun gs u h=>?_)
  ·refine zDC [] [0] h fun u h=>ydF (uL 0 12) [] h.on (fun u h=>(.l (h.c 0 0) (.l (hR2.ch h.ch).c2 (.i (k:Int) (r2.keys.length) (.l ((hR2.ch h.ch).kyx (x:=(k:Int)) (i:=k) (by omega) (by omega)).1 .z)))))<|yv [72] (rI (((gky r1.keys k).after:Nat):Int) (((gky r2.keys k).after:Nat):Int)) (fun y=>?_) fun y=>?_
   ·have Z:=y;refine ydF (uL 12 14) [] h.on (fun u h=> .z)<|yDe (fun a ha=>v true _ ⟨fun e=>(fun q=>absurd (by rw[q]) Z),fun e=>(by cases e),h.take 1⟩ a (ha.kp [1,54,55,56,86]))
   have a9:=y;refine ydF [12,13,15,16,17,18,19,20,21,22] [] h.on (fun u h=>(.l (h.c 0 1) (.l (hR2.ch h.ch).c2 (.i (k:Int) (r2.keys.length) (.l ((hR2.ch h.ch).kyx (x:=(k:Int)) (i:=k) (by omega) (by omega)).2 .z)))))<|qas 14 23 (by kernel_rfl) (by decide) ?_ ?_
   ·refine qa4 14 _ (by kernel_rfl) rfl (qE (kx1 k).1 (kx1 k).2.1 (kx1 k).2.2 ((gky r1.keys k).state) (some 75) (by kernel_rfl) ((hR1.ch h.ch).kr k (by omega)).1 ((hR1.ch h.ch).kr k (by omega)).2.1 ?_);refine zH h<|yH 23 (qE (kx2 k).1 (kx2 k).2.1 (kx2 k).2.2 ((gky r2.keys k).state) (some 84) (by kernel_rfl) ((hR2.ch h.ch).kr k (by omega)).1 ((hR2.ch h.ch).kr k (by omega)).2.1 ?_);refine zH h<|ydF [24,25] [] h.on (fun u h=> .z)<|yDe (fun a ha=>v (!(((qf ((gky r1.keys k).state))).toList==((qf ((gky r2.keys k).state))).toList)) _ ⟨fun e=>(fun q=>absurd ((qx (hW1.ks k (by omega)).1 (hW2.ks k (by omega)).1).trans (j1 (by rw[q]))) (iY.1 (by simpa using e))),fun e=>(ky_ext (by omega) (iK ((qx (hW1.ks k (by omega)).1 (hW2.ks k (by omega)).1).symm.trans (by simpa using e)))),h.take 1⟩ a (ha.kp [1,54,55,56,86]))
   refine qa4 23 _ (by kernel_rfl) rfl (qE (kx2 k).1 (kx2 k).2.1 (kx2 k).2.2 ((gky r2.keys k).state) (some 84) (by kernel_rfl) ((hR2.ch h.ch).kr k (by omega)).1 ((hR2.ch h.ch).kr k (by omega)).2.1 ?_);refine zH h<|yH 14 (qE (kx1 k).1 (kx1 k).2.1 (kx1 k).2.2 ((gky r1.keys k).state) (some 75) (by kernel_rfl) ((hR1.ch h.ch).kr k (by omega)).1 ((hR1.ch h.ch).kr k (by omega)).2.1 ?_);refine zH h<|ydF [24,25] [] h.on (fun u h=> .z)<|yDe (fun a ha=>v (!(((qf ((gky r1.keys k).state))).toList==((qf ((gky r2.keys k).state))).toList)) _ ⟨fun e=>(fun q=>absurd ((qx (hW1.ks k (by omega)).1 (hW2.ks k (by omega)).1).trans (j1 (by rw[q]))) (iY.1 (by simpa using e))),fun e=>(ky_ext (by omega) (iK ((qx (hW1.ks k (by omega)).1 (hW2.ks k (by omega)).1).symm.trans (by simpa using e)))),h.take 1⟩ a (ha.kp [1,54,55,56,86]))
  obtain⟨o,p,h⟩:=h;refine yc (rY gs) (fun A=>?_) fun A=>?_
  ·have a0:=A;refine yx 1<|q9 (rB (rS (qy (rB (rS (yR1 (xF) ?_))))));exact⟨_,rfl,⟨fun e=>(by cases e),fun e=>absurd (by rw[e]) (o a0)⟩,h.ch⟩
  have a1:=A;refine qo (nB (nS ?_));refine q7<|yp 2 [] (.q6 ((k:Int)+1) .z)<|yE (fun a ha=>W (k+1) _ ⟨by omega,fun j hj=>(iL j k).elim (fun D=>hE j D) fun D=>by(obtain rfl:j=k:=by omega);exact p a1,h.take 0⟩ (by show r1.keys.length-(k+1)<r1.keys.length-k;omega) a (ha.kp [1,54,55,56]))
 have aa:=t;refine qm (eS (qd (qb (nS ?_))));refine yx 1<|q9 (yR1 (.bool true) ?_);exact⟨_,rfl,⟨fun _=>rc_ext S T U fun j hj=>hE j (by omega),fun _=>rfl⟩,h.ch⟩
theorem qqE (w:World)(hT:LT w)(h7:gTop<=w.heap.size):CP 14 [].toArray w (RQ (.bool true) w):=by
 have h:=Sep.nil w;refine yA Tryz.func14 rfl<|yx 1<|ysr<|yo (yC (qeS (2) (1) _ (qaW h.ch hT (fun _ h=>h.elim)) (iq h7 h.ch.size)) ?_);rintro _ u ⟨y,rfl,A,B⟩;refine⟨_,rfl,?_⟩;have h:=h.newTm (U:=qj8) A B;refine yz 2<|ysr<|yo (yC (qmm 2000 _) ?_);rintro _ u ⟨a,rfl,C⟩;refine⟨_,rfl,?_⟩;have h:=h.addN C;rw[show max (2000:Int) 0=2000 by decide]at h;refine yz 2<|ys<|ysr ?_;obtain⟨W,X,h⟩:=h.opn 0;refine yp 13 [] (.l (h.tg 0) .z)<|ye<|ycf<|yk<|ysr<|yq 2 ?_;obtain⟨g,d,i,j⟩:=h.ex;have Y:=fit_len;refine yo (yC (qi7 a y qj8 2000 0 (g 1) (g 0) _ (d 1 _ rfl) (h.gz (gz0 h7) (j 1)) (tmA.of (tmA.at (d 0 _ rfl))) (i 0 1 (by decide)) qhb (by omega) (by decide)) ?_);rintro _ u ⟨c,rfl,D⟩;refine⟨_,rfl,?_⟩;have h:=h.into 1 d i j (by simp only[hJ,iz,iP,iR];omega) D;have h:=Sep.pack (l:=[]) (L:=fun _:Unit=>[qJ a ⟨some ⟨qK 83 (qa0 qj8),0⟩,2000,false,0,false⟩,qdK c a ⟨⟨qa0 qj8,[],[]⟩,qj8⟩]) () (h.ord [1,2]).eqv;refine yz 8<|ys<|ysr<|yq 9<|yo (yQ (h.stepA (gz0 h7) 0 (fun F hA E=>qqr c a ⟨qa0 qj8,[],[]⟩ qj8 (qK 83 (qa0 qj8)) 0 2000 0 fitE F _ hA E (qaW h.ch hT (fun _ h=>h.elim)) qhb qqB (by decide) (by decide) (by decide) (by omega) (by omega) (by decide))) fun u h=>?_);rw[fit_add]at h;refine yz 12<|ycf<|yk<|ysr<|yq 3 ?_;obtain⟨G,k,h⟩:=h.outRec 0
 obtain⟨m,n,o,p,q,s,t,v,x⟩:=G;refine yo (yC (h.enc13 0 ⟨m,n,o,p,q,s,t,v,x⟩ k qaz fitR_b true) ?_);rintro _ u ⟨Z,H,a0,rfl,h⟩;refine⟨_,rfl,?_⟩;have a1:(qaK fitR true).length=H:=by have:=h.len1 5;rwa[hZ]at this
 refine yo (yC (h.dec13 (whole:=true) hT h7 5 fitR_ok fitR_b rfl qhb (by decide) (by have:=fitR_len true;omega)) ?_);rintro _ u ⟨b24,I,J,rfl,h⟩;refine⟨_,rfl,?_⟩;obtain⟨K,M,N,O,P,Q,R,S,T⟩:=I;refine yz 10<|ysr<|yp 15 [] (.l (h.rcx 6 (b:=b24) (r:=fitR) ⟨K,M,N,O,P,Q,R,S,T⟩ J qiX).c1 .z)<|yw [62] (rE (fitR.evs.length:Int) 1) (fun f=>?_) fun f=>?_
 ·have a2:=f;refine yq 18<|yo (yQ (h.look (qcV c _ (h.rcx 0 (b:=c) (r:=fitR) ⟨m,n,o,p,q,s,t,v,x⟩ k qaz))) fun u h=>?_);refine yz 22<|q9 (yR1 (.bool (((qa1 fitR.evs):Int)==3)) ?_);exact⟨rfl,h.ch⟩
 have V:=f;exact absurd rfl V
end Go.Proofs.YtjjcnhgpccancaaGreatDoor.X


namespace Go.Proofs.YtjjcnhgpccancaaGreatDoor.X
open Go Go.RowKit Go.Proofs.YtjjcnhgpccancaaGreatDoor
def qe6 (ks:List Ky)(ix:List Nat):List Ky:=ix.map (gky ks)
def pickX (kx:Nat->Option Addr×Nat×Nat)(ix:List Nat):Nat->Option Addr×Nat×Nat:=fun i=>kx (ix.getD i 0)
theorem qdc (ks:List Ky)(ix:List Nat){j:Nat}(h:j<ix.length):gky (qe6 ks ix) j=gky ks (ix.getD j 0):=by
 unfold qe6;rw[show gky (ix.map (gky ks)) j=((ix.map (gky ks))[j]?).getD ⟨0,[]⟩from ik,iM,ik,ig h];rfl
def Rise (ix:List Nat)(n:Nat):Prop:=(∀j,j+1<ix.length->ix.getD j 0<ix.getD (j+1) 0)/\ ∀j,j<ix.length->ix.getD j 0<n
theorem qfc {ix:List Nat}{k j:Nat}(h:j<ix.length):(ix++[k]).getD j 0=ix.getD j 0:=by
 rw[ik,iw h,<-ik]
theorem Rise.nil (n:Nat):Rise [] n:=⟨fun j h=>absurd h (j0 _),fun j h=>absurd h (j0 _)⟩
theorem Rise.skip {ix:List Nat}{k:Nat}(h:Rise ix k):Rise ix (k+1):=⟨h.1,fun j hj=>by have:=h.2 j hj;omega⟩
theorem Rise.snoc {ix:List Nat}{k:Nat}(h:Rise ix k):Rise (ix++[k]) (k+1):=by
 have hl:(ix++[k]).length=ix.length+1:=by simp
 have hk:(ix++[k]).getD ix.length 0=k:=by simp
 refine⟨fun j hj=>?_,fun j hj=>?_⟩
 ·rw[hl]at hj
  rcases iL (j+1) ix.length with a|a
  ·rw[qfc a,qfc (by omega)];exact h.1 j a
  ·rw[show j+1=ix.length by omega,hk,qfc (by omega)];exact h.2 j (by omega)
 ·rw[hl]at hj
  rcases iL j ix.length with a|a
  ·rw[qfc a];have:=h.2 j a;omega
  ·rw[show j=ix.length by omega,hk];omega
def qkA (r:Rc)(ix:List Nat):Rc:=⟨r.start,r.evs,qe6 r.keys ix⟩
theorem qcn (r:Rc)(ix:List Nat):(qkA r ix).keys.length=ix.length:=by simp[qkA,qe6]
theorem Rise.len {n:Nat}:∀{ix:List Nat},Rise ix n->ix.length<=n:=fun{ix} h=>by
 have key:∀j,j<ix.length->j<=ix.getD j 0:=fun j=>by
  induction j with
  |zero=>exact fun _=>ir _
  |succ j ih=>exact fun hj=>by have:=ih (by omega);have:=h.1 j hj;omega
 rcases jm ix.length with h0|h0
 ·omega
 ·have:=key (ix.length-1) (by omega)
  have:=h.2 (ix.length-1) (by omega)
  omega
theorem pickR_ok {T0:TS}{r:Rc}(h:RcOk T0 r){ix:List Nat}(hr:Rise ix r.keys.length):RcOk T0 (qkA r ix):=by
 refine⟨h.evb,h.tm,fun j hj=>?_,fun j hj=>?_⟩
 ·rw[qcn]at hj
  show(gky (qe6 r.keys ix) j).after<=r.evs.length/\(gky (qe6 r.keys ix) j).state=qa0 (qaS T0 r.evs (gky (qe6 r.keys ix) j).after);rw[qdc _ _ hj];exact h.ks _ (hr.2 j hj)
 ·rw[qcn]at hj
  show(gky (qe6 r.keys ix) j).after<(gky (qe6 r.keys ix) (j+1)).after;rw[qdc _ _ hj,qdc _ _ (by omega)];have d:∀a b,a<b->b<r.keys.length->(gky r.keys a).after<(gky r.keys b).after:=fun a b f=>by
   induction b with
   |zero=>omega
   |succ b ih=>
    intro hb;have e:=h.up b hb;rcases iL a b with c|c
    ·have:=ih c (by omega);omega
    ·obtain rfl:a=b:=by omega
     exact e
  exact d _ _ (hr.1 j hj) (hr.2 (j+1) hj)
theorem pickR_b {r:Rc}{ix:List Nat}(hs:qat r.start/\r.start.length<=300000)(hk:∀j,j<r.keys.length->qat (gky r.keys j).state/\(gky r.keys j).state.length<=300000/\(gky r.keys j).after<=100000000)(he:EvsOk r.evs)(hr:Rise ix r.keys.length)(h1:r.keys.length<=300)(h2:r.evs.length<=3000):RcB (qkA r ix):=by
 have:=hr.len;refine rcb_of hs (fun j hj=>?_) he (by rw[qcn];omega) h2;rw[qcn]at hj;show qat (gky (qe6 r.keys ix) j).state/\(gky (qe6 r.keys ix) j).state.length<=300000/\(gky (qe6 r.keys ix) j).after<=100000000;rw[qdc _ _ hj];exact hk _ (hr.2 j hj)
theorem recl_of {r:Rc}(hW:RcB r)(hs:r.start.length<=300000)(hk:∀j,j<r.keys.length->(gky r.keys j).state.length<=300000)(he:EvsOk r.evs)(h1:r.keys.length<=10)(h2:r.evs.length<=80)(whole:Bool):(qaK r whole).length<=4000000:=by
 obtain⟨a,b⟩:=qf9 hs hk he.evb (r.evs.length+1);have c:(qh r).out.length<=3500000:=by
  have e:(qh r).out=(qk r (r.evs.length+1)).out:=rfl;rw[e];omega
 have d:=qf4 r (((qh r).out.length:Nat):Int) (qh r).pos;have f:=qfa (r:=r);unfold qaK;split
 ·rw[hJ];omega
 ·omega
theorem BuiltF.kb {p:Plan}{r:Rc}(h:BuiltF p r)(hp:p.l.length=p.en)(hf:p.en<=40):∀j,j<r.keys.length->qat (gky r.keys j).state/\(gky r.keys j).state.length<=300000/\(gky r.keys j).after<=100000000:=fun j hj=>by
 obtain⟨h1,h2⟩:=Plan.tok (p:=p) (by omega)
 rw[h.kl]at hj
 rw[h.kg j hj]
 have hd:=(p.ok.fold h1 (8*(j+1)) (by omega)).dec
 exact⟨qd5 hd,qcl hd,by dsimp only;omega⟩
theorem BuiltF.eo {p:Plan}{r:Rc}(h:BuiltF p r)(hp:p.l.length=p.en)(hf:p.en<=40):EvsOk r.evs:=h.ev▸(Plan.tok (p:=p) (by omega)).1
theorem BuiltF.pick {p:Plan}{r:Rc}(h:BuiltF p r)(hp:p.l.length=p.en)(hf:p.en<=40){ix:List Nat}(hr:Rise ix r.keys.length):RcOk p.T0 (qkA r ix)/\RcB (qkA r ix)/\ ∀whole,(qaK (qkA r ix) whole).length<=4000000:=by
 have hs:qat r.start/\r.start.length<=300000:=by rw[h.st];exact⟨qd5 p.ok.dec,qcl p.ok.dec⟩
 have hk:=h.kb hp hf;have he:=h.eo hp hf;have a:=h.kl;have b:=h.el;have hW:=pickR_b hs hk he hr (by omega) (by omega);refine⟨pickR_ok h.ok hr,hW,recl_of hW hs.2 (fun j hj=>?_) he (by rw[qcn];have:=hr.len;omega) (by show r.evs.length<=80;omega)⟩;rw[qcn]at hj;show(gky (qe6 r.keys ix) j).state.length<=300000;rw[qdc _ _ hj];exact(hk _ (hr.2 j hj)).2.1
theorem RcRd.pick {w:World}{b bx:Nat}{sa:Option Addr}{sn sc:Nat}{eo:Option Nat}{ec:Nat}{ko:Option Nat}{kc:Nat}{kx:Nat->Option Addr×Nat×Nat}{r:Rc}(h:RcRd w b sa sn sc eo ec ko kc kx r){ix:List Nat}(hr:Rise ix r.keys.length){o:Option Nat}{n c:Nat}{T:TypeId}
  (hb:Blk w bx [.slice sa sn sc,.slice (eo.map at0) r.evs.length ec,.slice (o.map at0) n c] T) (hO:Own w qhf 2 o n c (qaC (pickX kx ix) (qe6 r.keys ix) 0)) (hn:ix.length=n):RcRd w bx sa sn sc eo ec o c (pickX kx ix) (qkA r ix):=by
 have hl:=qcn r ix;refine⟨hb.c 0 rfl,hb.c 1 rfl,by rw[hl,hn];exact hb.c 2 rfl,h.st,h.sl,h.sz,h.ev,hO.rd,⟨h.en.1,by rw[hl];have:=hr.len;have:=h.en.2;omega⟩,fun i hi=>?_⟩;rw[hl]at hi;show Rd w (pickX kx ix i).1 (u8s (gky (qe6 r.keys ix) i).state)/\_;rw[qdc _ _ hi];have:=h.kr _ (hr.2 i hi);exact⟨this.1,by show(gky (qe6 r.keys ix) i).state.length=_/\_;rw[qdc _ _ hi];exact this.2⟩
theorem wr_low13 {x:Int}(h:0<=x):IntKind.wrap .u8 (x % 128+128)=((x.toNat % 128+128:Nat):Int):=by
 rw[show x % 128+128=((x.toNat % 128+128:Nat):Int) by omega,wrap8];congr 1;omega
theorem wr_top13 {x:Int}(h:0<=x)(h2:x<128):IntKind.wrap .u8 x=(x.toNat:Int):=by
 obtain⟨n,rfl⟩:∃n:Nat,x=(n:Int):=⟨x.toNat,by omega⟩
 rw[wrap8,il];congr 1;omega
theorem of32 {a:Int}(h:0<=a/\a<=4294967295):(BitVec.ofInt 32 a).toNat=a.toNat:=by
 rw[BitVec.toNat_ofInt];omega
theorem of8 {a:Int}(h:0<=a/\a<=255):(BitVec.ofInt 8 a).toNat=a.toNat:=by
 rw[BitVec.toNat_ofInt];omega
theorem qfH {a b:Int}(ha:0<=a/\a<=4294967295)(hb:0<=b/\b<=4294967295):qe .xor .u32 a b=((a.toNat^^^b.toNat:Nat):Int):=by
 have hx:a.toNat^^^b.toNat<2^32:=Nat.xor_lt_two_pow (by omega) (by omega);unfold qe;show IntKind.wrap .u32 (((BitVec.ofInt 32 a^^^BitVec.ofInt 32 b).toNat:Nat):Int)=_;rw[BitVec.toNat_xor,of32 ha,of32 hb];exact qbm (k:= .u32) (show 0<=(((a.toNat^^^b.toNat:Nat)):Int)/\(((a.toNat^^^b.toNat:Nat)):Int)<=4294967295 by omega)
theorem qmF {a:Int}(ha:0<=a/\a<=4294967295):qe .and .u32 a 1=((a.toNat % 2:Nat):Int):=by
 unfold qe;show IntKind.wrap .u32 (((BitVec.ofInt 32 a&&&BitVec.ofInt 32 1).toNat:Nat):Int)=_;rw[BitVec.toNat_and,of32 ha,show(BitVec.ofInt 32 1).toNat=1 by decide,Nat.and_one_is_mod];exact qbm (k:= .u32) (show 0<=((a.toNat % 2:Nat):Int)/\((a.toNat % 2:Nat):Int)<=4294967295 by omega)
theorem qqF {a:Int}(ha:0<=a/\a<=255):qe .and .u8 a 1=((a.toNat % 2:Nat):Int):=by
 unfold qe;show IntKind.wrap .u8 (((BitVec.ofInt 8 a&&&BitVec.ofInt 8 1).toNat:Nat):Int)=_;rw[BitVec.toNat_and,of8 ha,show(BitVec.ofInt 8 1).toNat=1 by decide,Nat.and_one_is_mod];exact qbm (k:= .u8) (show 0<=((a.toNat % 2:Nat):Int)/\((a.toNat % 2:Nat):Int)<=255 by omega)
theorem qmG {a:Int}(ha:0<=a)(j:Nat):Int.fdiv a (2^j)=((a.toNat>>>j:Nat):Int):=by
 obtain⟨n,rfl⟩:∃n:Nat,a=(n:Int):=⟨a.toNat,by omega⟩
 rw[il,jJ];rw[show((2:Int)^j)=((2^j:Nat):Int) by simp,jV _ (Int.natCast_nonneg _)];rfl
abbrev y1 (x:Int):Int:=Int.fdiv x (2^min (1:Int).toNat (IntKind.bits .u32))
theorem y1_nat {x:Int}(h:0<=x):y1 x=((x.toNat>>>1:Nat):Int):=qmG h 1
theorem qmH {c:Int}(h:0<=c/\c<=4294967295):crc1 c=(((c.toNat>>>1)^^^(if c.toNat % 2=1 then 3988292384 else 0):Nat):Int):=by
 have hs:c.toNat>>>1=c.toNat/2:=by rw[jJ]
 have hw:IntKind.wrap .u32 (3988292384*(qe .and .u32 c 1))=(((if c.toNat % 2=1 then 3988292384 else 0):Nat):Int):=by
  rw[qmF h];rcases kq c.toNat with e|e
  ·rw[e,if_neg (by decide)];rfl
  ·rw[e,if_pos rfl];rfl
 show qe .xor .u32 (y1 c) (IntKind.wrap .u32 (3988292384*(qe .and .u32 c 1)))=_;rw[hw,y1_nat h.1,qfH (by omega) (by split<;>omega),il,il]
theorem crc_step {x v c:Int}{j:Nat}(hx:0<=x/\x<=4294967295)(hc:0<=c/\c<=4294967295)(he:c.toNat=x.toNat^^^(v.toNat>>>j)):
  (c.toNat % 2=1->0<=qe .xor .u32 (y1 x) 3988292384/\qe .xor .u32 (y1 x) 3988292384<=4294967295/\(crc1 c).toNat=(qe .xor .u32 (y1 x) 3988292384).toNat^^^(v.toNat>>>(j+1)))/\
  (¬c.toNat % 2=1->0<=y1 x/\y1 x<=4294967295/\(crc1 c).toNat=(y1 x).toNat^^^(v.toNat>>>(j+1))):=by
 have hs:x.toNat>>>1=x.toNat/2:=by rw[jJ]
 have hy:=y1_nat hx.1;have a:c.toNat>>>1=(x.toNat>>>1)^^^(v.toNat>>>(j+1)):=by rw[he,Nat.shiftRight_xor_distrib,Nat.shiftRight_add]
 refine⟨fun h=>?_,fun h=>?_⟩
 ·have hb:=qdE .xor (y1 x) 3988292384
  refine⟨hb.1,hb.2,?_⟩;rw[qmH hc,if_pos h,il,a,qfH (by omega) (by decide),il,hy,il,show(3988292384:Int).toNat=3988292384 from rfl];rw[Nat.xor_assoc,Nat.xor_comm (v.toNat>>>(j+1)),<-Nat.xor_assoc]
 ·refine⟨by omega,by omega,?_⟩
  rw[qmH hc,if_neg h,il,a,hy,il,Nat.xor_zero]
theorem qqG {c:Int}(h:0<=c/\c<=4294967295):∀j,0<=ql9 c j/\ql9 c j<=4294967295
 |0=>h
 |j+1=>by show 0<=crc1 (ql9 c j)/\crc1 (ql9 c j)<=4294967295;exact qdE _ _ _
theorem qqH {x v:Int}{j:Nat}{c:Nat}(hx:0<=x/\x<=4294967295)(hv:0<=v/\v<=255)(hj:j<8)(he:c=x.toNat^^^(v.toNat>>>j)):
  qe .xor .u32 (qe .and .u32 x 1) (IntKind.wrap .u32 (qe .and .u8 (Int.fdiv v (2^min (j:Int).toNat (IntKind.bits .u8))) 1))=((c % 2:Nat):Int):=by
 have hm:min (j:Int).toNat (IntKind.bits .u8)=j:=by rw[il];exact jK (by show j<=8;omega)
 have hl:v.toNat>>>j<=v.toNat:=by rw[jJ];exact Nat.div_le_self _ _
 rw[hm,qmG hv.1];generalize v.toNat>>>j=q at hl he⊢;rw[qmF hx,qqF (by omega),qbm (k:= .u32) (show 0<=(((q:Int).toNat % 2:Nat):Int)/\(((q:Int).toNat % 2:Nat):Int)<=4294967295 by omega),qfH (by omega) (by omega),il,il,il,he];have:=Nat.xor_mod_two_pow (a:=x.toNat) (b:=q) (n:=1);rw[Nat.pow_one]at this;rw[this]
theorem crc_zero {x v:Int}(hv:0<=v/\v<=255):x.toNat^^^(v.toNat>>>8)=x.toNat:=by
 have:v.toNat>>>8=0:=by rw[jJ];exact Nat.div_eq_of_lt (by omega)
 rw[this,Nat.xor_zero]
theorem qqI {x v:Int}(hx:0<=x/\x<=4294967295)(hv:0<=v/\v<=255):(qe .xor .u32 x v).toNat=x.toNat^^^(v.toNat>>>0):=by
 rw[qfH hx (by omega),il,Nat.shiftRight_zero]
theorem qgl {T0:TS}{r:Rc}(h:RcOk T0 r){i:Nat}(hi:i<=r.evs.length+1):(qk r i).k<=r.keys.length/\(∀j,j<(qk r i).k->(gky r.keys j).after<i)/\((qk r i).k<r.keys.length->i<=(gky r.keys (qk r i).k).after):=by
 obtain⟨_,a,b,c⟩:=fr_ok h i hi;rw[<-(qgh r i).2]at a b c;exact⟨a,b,c⟩
theorem up_lt {T0:TS}{r:Rc}(h:RcOk T0 r){a:Nat}:∀{b:Nat},a<b->b<r.keys.length->(gky r.keys a).after<(gky r.keys b).after
 |0,hab,_=>by omega
 |b+1,hab,hb=>by
  have h1:=h.up b hb
  rcases iL a b with h2|h2
  ·have:=up_lt h h2 (by omega);omega
  ·obtain rfl:a=b:=by omega
   exact h1
def qfd (r:Rc)(pos:List Int):Nat->List Int
 |0=>[]
 |i+1=>qfd r pos i++(qv (gky r.keys i).after++(qv (qQ r.evs (gky r.keys i).after).toNat++qv (pos.getD i 0).toNat))
theorem qmI (r:Rc)(pos:List Int):∀i,qfW r pos i=qv pos.length++qfd r pos i
 |0=>by simp[qfW,qfd]
 |i+1=>by rw[qfW,qmI r pos i,qfd,ie]
theorem qmJ (r:Rc)(pos:List Int)(x:Int):∀i,i<=pos.length->qfd r (pos++[x]) i=qfd r pos i
 |0,_=>rfl
 |i+1,h=>by
  rw[qfd,qfd,qmJ r pos x i (by omega),ik,iw (by omega),<-ik]
def qfi (r:Rc)(i j:Nat):Pl:=if(qk r i).k<j then qbu r i (qk r i)else qk r i
abbrev qj3 (r:Rc)(i j:Nat):List Int:=qfd r (qfi r i j).pos (qfi r i j).k
theorem qmK (r:Rc)(i:Nat):qfi r i 0=qk r i:=if_neg (j0 _)
theorem mid_no {T0:TS}{r:Rc}(h:RcOk T0 r){i j:Nat}(hi:i<=r.evs.length)(hj:j<r.keys.length)(hn:¬(gky r.keys j).after=i):qfi r i (j+1)=qfi r i j:=by
 unfold qfi;by_cases a:(qk r i).k<j
 ·rw[if_pos (by omega),if_pos a]
 ·rw[if_neg a]
  split
  ·obtain rfl:j=(qk r i).k:=by omega
   exact if_neg fun hh=>hn hh.2
  ·rfl
theorem qqJ {T0:TS}{r:Rc}(h:RcOk T0 r){i j:Nat}(hi:i<=r.evs.length)(hj:j<r.keys.length)(hy:(gky r.keys j).after=i):(qk r i).k=j/\qfi r i j=qk r i/\qfi r i (j+1)=⟨(qk r i).out++qK 75 (qR (gky r.keys j)),(qk r i).pos++[(((qk r i).out.length:Nat):Int)],j+1⟩:=by
 obtain⟨c,a,b⟩:=qgl h (i:=i) (by omega);have hk:(qk r i).k=j:=by
  rcases Nat.lt_trichotomy (qk r i).k j with hl|hl|hl
  ·have:=b (by omega)
   have:=up_lt h hl hj;omega
  ·exact hl
  ·have:=a j hl;omega
 refine⟨hk,if_neg (by omega),?_⟩;unfold qfi;rw[if_pos (by omega)];unfold qbu;rw[hk,if_pos ⟨hj,hy⟩]
theorem qlt {T0:TS}{r:Rc}(h:RcOk T0 r){i:Nat}(hi:i<=r.evs.length):qfi r i r.keys.length=qbu r i (qk r i):=by
 obtain⟨a,b,c⟩:=qgl h (i:=i) (by omega);unfold qfi;split
 ·rfl
 ·exact(if_neg fun hh=>by omega).symm
theorem mid_j {T0:TS}{r:Rc}(h:RcOk T0 r){i j:Nat}(hi:i<=r.evs.length)(hj:j<r.keys.length)(hy:(gky r.keys j).after=i):qj3 r i (j+1)=qj3 r i j++(qv i++(qv (qQ r.evs i).toNat++qv (qk r i).out.length)):=by
 obtain⟨a,b,c⟩:=qqJ h hi hj hy;have hl:=(pl_k r i).1;unfold qj3;rw[c,b,a];dsimp only;rw[qfd,qmJ r _ _ j (by omega),hy];have:((qk r i).pos++[(((qk r i).out.length:Nat):Int)]).getD j 0=(((qk r i).out.length:Nat):Int):=by
  rw[<-a,<-hl];simp
 rw[this,il]
theorem idx_all {r:Rc}(N:Int):qaG r N (qh r).pos=qK 73 (qv (qh r).k++qfd r (qh r).pos (qh r).k)++qK 70 [IntKind.wrap .u8 N,IntKind.wrap .u8 (Int.fdiv N (2^8)),IntKind.wrap .u8 (Int.fdiv N (2^16)),IntKind.wrap .u8 (Int.fdiv N (2^24))]:=by
 have hl:(qh r).pos.length=(qh r).k:=(pl_k r (r.evs.length+1)).1;unfold qaG;rw[hl,qmI,hl]
theorem qmL (r:Rc)(pos:List Int)(j:Nat):(qfd r pos j).length<=30*j+10:=by
 have:=qfB r pos j;rw[qmI,hJ]at this;omega
theorem qqK {r:Rc}(hW:RcB r)(i j:Nat):(qfi r i j).out.length<=102000000/\(qk r i).out.length<=100000000:=by
 have a:=hW.ln i;refine⟨?_,a⟩;unfold qfi;split
 ·unfold qbu
  split
  ·rename_i hc
   have b:=qa2 75 (qR (gky r.keys (qk r i).k));have c:=qd8 (gky r.keys (qk r i).k);have d:=(hW.ks _ hc.1).2.1;dsimp only;rw[hJ];omega
  ·omega
 ·omega
theorem mid_k {T0:TS}{r:Rc}(h:RcOk T0 r){i:Nat}(hi:i<=r.evs.length)(j:Nat):(qfi r i j).k<=r.keys.length:=by
 obtain⟨a,_,_⟩:=qgl h (i:=i) (by omega);unfold qfi;split
 ·exact(keyP_k r i _ a).1
 ·exact a
theorem qnU {r:Rc}(hW:RcB r)(hk:r.keys.length<=10000000):qat (qv (qh r).k++qfd r (qh r).pos (qh r).k):=by
 have hl:(qh r).pos.length=(qh r).k:=(pl_k r (r.evs.length+1)).1;have ha:=pl_a r (r.evs.length+1) (iE _);have:=qgi hW (pl_p hW (r.evs.length+1)) (qfa (r:=r)) hk (fun j hj=>by
  have:=ha.2 j (by rw[show(qk r (r.evs.length+1)).k=(qh r).k from rfl,<-hl];exact hj);exact⟨this,(hW.tm this).2⟩) _ (iE _)
 rw[show(qk r (r.evs.length+1)).pos=(qh r).pos from rfl,qmI,hl]at this;exact this
theorem ev_time {l:List Ev}{i:Nat}:qQ l (i+1)=(ge l i).time:=by unfold qQ;rw[if_neg (by omega),kC]
theorem qj4 {n:Nat}(k:Nat):Int.fdiv (n:Int) (2^k)=(n:Int)/2^k:=jV _ (by
 have:=Nat.two_pow_pos k
 have e:((2:Int)^k)=((2^k:Nat):Int):=by simp
 omega)
theorem qb9 (o:Option Nat)(n cap:Nat)(xs:List Int)(m:Int)(w:World)(hO:Own w tU8 1 o n cap (u8s xs))(hm:0<=m/\m<=9223372036854775807)(hz:n+10<=1000000000):CP 70 [.slice (o.map at0) n cap,iX m].toArray w fun e w'=> ∃o' n' c',e= .returned (.slice (o'.map at0) n' c')/\Own w' tU8 1 o' n' c' (u8s (xs++qv m.toNat))/\(xs++qv m.toNat).length=n'/\App w w' o o':=by
 have h:=Sep.startO hO;refine yA Tryz.func70 rfl<|yx 1<|ys<|qa<|qV [0,1] (f':=[(0,.slice (o.map at0) n cap),(1,iX m)])<|qw (σ:=Int×Nat×List Int×Option Nat×Nat×Nat) (fun⟨x,f,zs,d,c,g⟩=>[(0,.slice (d.map at0) c g),(1,iX x)]) (fun⟨x,f,zs,d,c,g⟩ u=>0<=x/\x.toNat<128^(f+1)/\zs++qhe f x.toNat=xs++qv m.toNat/\c+f+1<=n+10/\x<=m/\Sep w (fun k=>o=some k) u [qa8 tU8 1 d c g (u8s zs)]) (fun⟨x,f,zs,d,c,g⟩=>x.toNat) (m,9,xs,o,n,cap) rfl ?_ ?_
 ·exact⟨hm.1,(by have s:(128:Nat)^(9+1)=1180591620717411303424:=(by decide);rw[s];omega),rfl,by omega,Int.le_refl _,h.take 1⟩
 intro q u t I v;obtain⟨x,f,zs,d,c,g⟩:=q;obtain⟨j,y,l,hn2,J,h⟩:=t;have K:zs.length=c:=by have:=h.len1 0;rwa[hZ]at this
 refine ys<|yx 2<|yc (rL 127 x) (fun i=>?_) fun i=>?_
 ·have L:=i;refine yk<|qa<|ysr ?_;refine yp 5 [] (.p (q:=0<=(x:Int)/\0<(128:Int)) (by constructor<;>omega) (.q6 ((x % 128)+128) .z)) ?_;refine yo (zB [uX (IntKind.wrap .u8 ((x % 128)+128))] 5 1 h fun u A h=>?_);refine yo (zA (a2:=(some ⟨A,0,none⟩)) (ys:=u8s ([(IntKind.wrap .u8 ((x % 128)+128))])) 0 1 1 1 (c+1) (u8s (zs++[(IntKind.wrap .u8 ((x % 128)+128))])) h (Rd.all (h.b 1)) (qN _) (hz:=(qaR _ _).symm) (hy:=rfl) (hn2:=(fun e=>by cases e)) fun u B C h M=>?_);have N:(zs++[(IntKind.wrap .u8 ((x % 128)+128))]).length=(c+1):=by have:=h.len1 0;rwa[hZ]at this
  refine yz 8<|q7 ?_;refine yp 3 [] (.p (q:=0<=(x:Int)/\0<(128:Int)) (by constructor<;>omega) (.q6 (x/128) .z)) ?_;obtain⟨f,rfl⟩:∃f',f=f'+1:=by
   cases f with
   |zero=>exfalso;have:x.toNat<128:=y;omega
   |succ f=>exact⟨f,rfl⟩
  have O:128^(f+1+1)=128^(f+1)*128:=rfl;have hq:zs++[IntKind.wrap .u8 (x % 128+128)]++qhe f (x/128).toNat=xs++qv m.toNat:=by rw[<-l,qdV (by omega),wr_low13 j,show(x/128).toNat=x.toNat/128 by omega,ie];rfl
  refine yE (nB (fun a ha=>v (x/128,f,zs++[(IntKind.wrap .u8 ((x % 128)+128))],B,(c+1),C) _ ⟨by omega,by omega,hq,by omega,by omega,h.take 1⟩ (by show(x/128).toNat<x.toNat;omega) a (ha.kp [0,1])))
 have P:=i;refine qm (eS (qd (qb (nS ?_))));refine ysr<|yq 3<|yo (zB [uX (IntKind.wrap .u8 x)] 5 1 h fun u D h=>?_);refine yo (zA (a2:=(some ⟨D,0,none⟩)) (ys:=u8s ([(IntKind.wrap .u8 x)])) 0 1 1 1 (c+1) (u8s (zs++[(IntKind.wrap .u8 x)])) h (Rd.all (h.b 1)) (qN _) (hz:=(qaR _ _).symm) (hy:=rfl) (hn2:=(fun e=>by cases e)) fun u E F h Q=>?_);have R:(zs++[(IntKind.wrap .u8 x)]).length=(c+1):=by have:=h.len1 0;rwa[hZ]at this
 refine yz 6<|q9 (yR1 (.slice (E.map at0) (c+1) F) ?_);have G:(zs++[(IntKind.wrap .u8 x)]:List Int)=xs++qv m.toNat:=by rw[<-l,qcd (by omega),wr_top13 j (by omega)]
 rw[G]at h;obtain⟨r,H⟩:=h.finA 0;exact⟨_,_,_,rfl,r,r.len1',H⟩
theorem qqL (b cap:Nat)(l:List Int)(w:World)(hr:Rd w (some ⟨b,0,none⟩) (u8s l))(hby:qat l)(hn:l.length<=1000000000):CP 71 [.slice (some ⟨b,0,none⟩) l.length cap].toArray w (RQ (.int .u32 (qca l)) w):=by
 have h:=Sep.nil w;refine yA Tryz.func71 rfl<|yx 1<|yx 1<|ys<|yx 1<|qa<|qV [0,3,4] (f':=[(0,.slice (some ⟨b,0,none⟩) l.length cap),(3,.int .u32 4294967295),(4,iX 0)])<|qw (σ:=Nat×Int) (fun⟨k,y⟩=>[(0,.slice (some ⟨b,0,none⟩) l.length cap),(3,.int .u32 y),(4,iX (k:Int))]) (fun⟨k,y⟩ u=>k<=l.length/\y=qho l k/\Sep w (fun _=>False) u []) (fun⟨k,y⟩=>l.length-k) (0,4294967295) rfl ?_ ?_
 ·exact⟨ir _,rfl,h.take 0⟩
 intro q u v J A;obtain⟨k,y⟩:=q;obtain⟨hk,hy,h⟩:=v;refine ys<|yx 4<|yc (rL (k:Int) (l.length:Int)) (fun g=>?_) fun g=>?_
 ·have K:=g;have hv:=qpM hby (k:=k) (by omega);have r:=qla l k;have s:=qdE .xor (qho l k) (l.getD k 0);refine yk<|ys<|qa<|yx 1<|qa<|qV [0,3,4,5] (f':=[(0,.slice (some ⟨b,0,none⟩) l.length cap),(3,.int .u32 y),(4,iX (k:Int)),(5,iX 0)])<|qw (σ:=Nat×Int) (fun⟨j,x⟩=>[(0,.slice (some ⟨b,0,none⟩) l.length cap),(3,.int .u32 x),(4,iX (k:Int)),(5,iX (j:Int))]) (fun⟨j,x⟩ u=>j<=8/\(0<=x/\x<=4294967295)/\(ql9 (qe .xor .u32 (qho l k) (l.getD k 0)) j).toNat=x.toNat^^^((l.getD k 0).toNat>>>j)/\Sep w (fun _=>False) u []) (fun⟨j,x⟩=>8-j) (0,y) rfl ?_ ?_
  ·exact⟨ir _,(hy▸r),(by rw[hy];exact qqI r hv),h.take 0⟩
  intro q u B L t;obtain⟨j,x⟩:=q;obtain⟨hj,hx,f,h⟩:=B;refine ys<|yx 2<|yc (rL (j:Int) 8) (fun m=>?_) fun m=>?_
  ·have M:=m;have C:=qqG s j;have d:=crc_step hx C f;refine yk<|ys<|qa<|ysr<|yp 12 [] (.i (k:Int) (l.length) (.l (o:=(0+((k:Int)).toNat*1)) (qlc (h.rd hr) (by omega)) (.p (q:=0<=((j:Int):Int)) (by omega) .z)))<|ye<|ysr<|yp 3 [] (.p (q:=0<=(1:Int)) (by omega) .z)<|ye<|yx 2<|yc (rE (qe .xor .u32 (qe .and .u32 x 1) (IntKind.wrap .u32 (qe .and .u8 (Int.fdiv (l.getD k 0) (2^min ((j:Int):Int).toNat (IntKind.bits .u8))) 1))) 1) (fun n=>?_) fun n=>?_
   ·have D:=n;have E:((((ql9 (qe .xor .u32 (qho l k) (l.getD k 0)) j).toNat % 2:Nat)):Int)=1:=by rw[<-qqH hx hv (by omega) f];exact D
    have c:(ql9 (qe .xor .u32 (qho l k) (l.getD k 0)) j).toNat % 2=1:=by omega
    refine q7<|yq 3<|yE (nB (nS ?_));refine q7<|yp 3 [] (.q6 ((j:Int)+1) .z)<|yE (fun a ha=>t (j+1,(qe .xor .u32 (Int.fdiv x (2^min (1:Int).toNat (IntKind.bits .u32))) 3988292384)) _ ⟨by omega,⟨(d.1 c).1,(d.1 c).2.1⟩,(d.1 c).2.2,h.take 0⟩ (by show 8-(j+1)<8-j;omega) a (ha.kp [0,3,4,5]))
   have F:=n;have E:((((ql9 (qe .xor .u32 (qho l k) (l.getD k 0)) j).toNat % 2:Nat)):Int)≠1:=by rw[<-qqH hx hv (by omega) f];exact F
   have c:¬(ql9 (qe .xor .u32 (qho l k) (l.getD k 0)) j).toNat % 2=1:=by omega
   refine qo (nB (nS ?_));refine q7<|yp 3 [] (.q6 ((j:Int)+1) .z)<|yE (fun a ha=>t (j+1,(Int.fdiv x (2^min (1:Int).toNat (IntKind.bits .u32)))) _ ⟨by omega,⟨(d.2 c).1,(d.2 c).2.1⟩,(d.2 c).2.2,h.take 0⟩ (by show 8-(j+1)<8-j;omega) a (ha.kp [0,3,4,5]))
  have N:=m;have G:j=8:=by omega
  subst G;have H:x=qho l (k+1):=by have hb:=qqG s 8;rw[crc_zero hv]at f;show x=ql9 (qe .xor .u32 (qho l k) (l.getD k 0)) 8;omega
  refine qm (eS (qd (qb (nB (nS ?_)))));refine q7<|yp 3 [] (.q6 ((k:Int)+1) .z)<|yE (fun a ha=>A (k+1,x) _ ⟨by omega,H,h.take 0⟩ (by show l.length-(k+1)<l.length-k;omega) a (ha.kp [0,3,4]))
 have O:=g;have I:k=l.length:=by omega
 refine qm (eS (qd (qb (nS ?_))));refine yx 3<|q9 (yR1 (.int .u32 (qe .xor .u32 y 4294967295)) ?_);exact⟨by rw[hy,I];unfold qca;rw[show qe .xor .u32 (qho l l.length) 4294967295=qe .xor .u32 4294967295 (qho l l.length) by rw[qfH (qla l _) (by decide),qfH (by decide) (qla l _),Nat.xor_comm]],h.ch⟩
theorem qnV (b n cap:Nat)(l:List Int)(w:World)(hr:Rd w (some ⟨b,0,none⟩) (u8s l))(hby:qat l)(hn:l.length<=1000000000)(e:l.length=n):CP 71 [.slice (some ⟨b,0,none⟩) n cap].toArray w (RQ (.int .u32 (qca l)) w):=by
 subst e;exact qqL b cap l w hr hby hn
theorem bytV_u8 (x:ByteArray):qe7 x=u8s (qaT x):=by
 unfold qe7 qaT u8s;rw[jB];rfl
theorem bytV_app (l:List Int)(x:ByteArray):u8s l++qe7 x=u8s (l++qaT x):=by rw[qaR,bytV_u8]
theorem qco (a0:Option Addr)(n0 c0:Nat)(xs:List Int)(sg:Int)(a:Option Addr)(m c:Nat)(l:List Int)(w:World)(hr0:Rd w a0 (u8s xs))(hl0:xs.length=n0)(hz0:a0=none->c0=0)(hr:Rd w a (u8s l))(hl:l.length=m)(hz:a=none->c=0)(hby:qat l)(hsg:0<=sg/\sg<=255)(hb:n0+m+200<=1000000000):CP 33 [.slice a0 n0 c0,uX sg,.slice a m c].toArray w fun e w'=> ∃o' n' c',e= .returned (.slice (o'.map at0) n' c')/\Sep w (fun _=>False) w' [qa8 tU8 1 o' n' c' (u8s (xs++qK sg l))]:=by
 have n:qat (qX (sg::l)):=ql (qp (by rw[iz];omega)) (qh5 hsg hby);have A:=qH ((m:Int)+1).toNat;have B:=qpI (qX (sg::l));have h:=Sep.nil w;refine yA Tryz.func33 rfl<|yx 1<|ysr<|yp 3 [] (.q6 ((m:Int)+1) .z)<|yo (yC (qb9 none 0 0 ([]) (((m:Int)+1)) _ (Own.nil _ _ _) (by omega) (by omega)) ?_);rintro _ u ⟨C,d,D,rfl,f,E,o⟩;refine⟨_,rfl,?_⟩;rw[iO]at f;have h:=h.app0 f o;have F:(qv (((m:Int)+1)).toNat).length=d:=by have:=h.len1 0;rwa[hZ]at this
 refine yq 5<|yo (zB [uX sg] 5 1 h fun u r h=>?_);refine yo (zA (a2:=(some ⟨r,0,none⟩)) (ys:=u8s ([sg])) 0 1 1 1 (d+1) (u8s (qv (((m:Int)+1)).toNat++[sg])) h (Rd.all (h.b 1)) (qN _) (hz:=(qaR _ _).symm) (hy:=rfl) (hn2:=(fun e=>by cases e)) fun u G H h I=>?_);have J:(qv (((m:Int)+1)).toNat++[sg]).length=(d+1):=by have:=h.len1 0;rwa[hZ]at this
 refine yq 8<|yo (zA (a2:=a) (ys:=u8s (l)) 0 1 m c ((d+1)+m) (u8s (qv (((m:Int)+1)).toNat++[sg]++l)) h (hr.ch h.ch fun _ _ h=>h) (qN _) (hz:=(qaR _ _).symm) (hy:=(by rw[qU];omega)) (hn2:=hz) fun u K g h L=>?_);have s:(qv (((m:Int)+1)).toNat++[sg]++l).length=((d+1)+m):=by have:=h.len1 0;rwa[hZ]at this
 have i:(qv (((m:Int)+1)).toNat++[sg]++l:List Int)=qX (sg::l):=by unfold qX;rw[iz,show(m:Int)+1=(((l.length+1:Nat)):Int) by omega,il];simp
 rw[i]at h;have j:(qX (sg::l)).length=((d+1)+m):=by rw[<-i];exact s
 refine yz 10<|ysr<|yq 1 ?_;obtain⟨k,rfl⟩:=h.isO 0;refine yo (yQ (h.look (qnV k ((d+1)+m) g (qX (sg::l)) _ (h.brd 0) n (by omega) j)) fun u h=>?_);refine yz 3<|ysr<|yq 1<|yo (zA0 (a2:=a0) (m:=n0) (c2:=c0) (ys:=u8s (xs)) 5 1 1 h (hr0.ch h.ch fun _ _ h=>h) (qN _) (by rw[qU];omega) hz0 fun u M N h O=>?_);have P:(xs).length=n0:=by have:=h.len1 2;rwa[hZ]at this
 refine yq 3<|yo (zA (a2:=(some ⟨k,0,none⟩)) (ys:=u8s (qX (sg::l))) 2 1 ((d+1)+m) g (n0+((d+1)+m)) (u8s (xs++qX (sg::l))) h (h.brd 0) (qN _) (hz:=(qaR _ _).symm) (hy:=(by rw[qU];have:=j;omega)) (hn2:=(fun e=>by cases e)) fun u Q R h S=>?_);have T:(xs++qX (sg::l)).length=(n0+((d+1)+m)):=by have:=h.len1 2;rwa[hZ]at this
 refine yp 15 [] (.p (q:=0<=(8:Int)) (by omega) (.p (q:=0<=(16:Int)) (by omega) (.p (q:=0<=(24:Int)) (by omega) .z)))<|yo (zB [uX (IntKind.wrap .u8 (qca (qX (sg::l)))),uX (IntKind.wrap .u8 (Int.fdiv (qca (qX (sg::l))) (2^min (8:Int).toNat (IntKind.bits .u32)))),uX (IntKind.wrap .u8 (Int.fdiv (qca (qX (sg::l))) (2^min (16:Int).toNat (IntKind.bits .u32)))),uX (IntKind.wrap .u8 (Int.fdiv (qca (qX (sg::l))) (2^min (24:Int).toNat (IntKind.bits .u32))))] 5 4 h fun u t h=>?_);refine yo (zA (a2:=(some ⟨t,0,none⟩)) (ys:=u8s ([(IntKind.wrap .u8 (qca (qX (sg::l)))),(IntKind.wrap .u8 (Int.fdiv (qca (qX (sg::l))) (2^min (8:Int).toNat (IntKind.bits .u32)))),(IntKind.wrap .u8 (Int.fdiv (qca (qX (sg::l))) (2^min (16:Int).toNat (IntKind.bits .u32)))),(IntKind.wrap .u8 (Int.fdiv (qca (qX (sg::l))) (2^min (24:Int).toNat (IntKind.bits .u32))))])) 2 1 4 4 ((n0+((d+1)+m))+4) (u8s (xs++qX (sg::l)++[(IntKind.wrap .u8 (qca (qX (sg::l)))),(IntKind.wrap .u8 (Int.fdiv (qca (qX (sg::l))) (2^min (8:Int).toNat (IntKind.bits .u32)))),(IntKind.wrap .u8 (Int.fdiv (qca (qX (sg::l))) (2^min (16:Int).toNat (IntKind.bits .u32)))),(IntKind.wrap .u8 (Int.fdiv (qca (qX (sg::l))) (2^min (24:Int).toNat (IntKind.bits .u32))))])) h (Rd.all (h.b 3)) (qN _) (hz:=(qaR _ _).symm) (hy:=rfl) (hn2:=(fun e=>by cases e)) fun u v x h U=>?_);have V:(xs++qX (sg::l)++[(IntKind.wrap .u8 (qca (qX (sg::l)))),(IntKind.wrap .u8 (Int.fdiv (qca (qX (sg::l))) (2^min (8:Int).toNat (IntKind.bits .u32)))),(IntKind.wrap .u8 (Int.fdiv (qca (qX (sg::l))) (2^min (16:Int).toNat (IntKind.bits .u32)))),(IntKind.wrap .u8 (Int.fdiv (qca (qX (sg::l))) (2^min (24:Int).toNat (IntKind.bits .u32))))]).length=((n0+((d+1)+m))+4):=by have:=h.len1 2;rwa[hZ]at this
 refine yz 18<|q9 (yR1 (.slice (v.map at0) ((n0+((d+1)+m))+4) x) ?_);have y:(xs++qX (sg::l)++[(IntKind.wrap .u8 (qca (qX (sg::l)))),(IntKind.wrap .u8 (Int.fdiv (qca (qX (sg::l))) (2^min (8:Int).toNat (IntKind.bits .u32)))),(IntKind.wrap .u8 (Int.fdiv (qca (qX (sg::l))) (2^min (16:Int).toNat (IntKind.bits .u32)))),(IntKind.wrap .u8 (Int.fdiv (qca (qX (sg::l))) (2^min (24:Int).toNat (IntKind.bits .u32))))]:List Int)=xs++qK sg l:=by unfold qK qad;simp only[ie];rfl
 rw[y]at h;exact⟨_,_,_,rfl,(h.ord [2]).eqv⟩
theorem qlu (fr t k W H:Int)(d:ByteArray)(w:World)(hB:evB ⟨t,k,d,W,H⟩=true)(h0:0<=fr/\fr<=t):CP 38 [iX fr,.agg #[iX t,iX k,.string d,iX W,iX H]].toArray w fun e w'=> ∃o' n' c',e= .returned (.slice (o'.map at0) n' c')/\Sep w (fun _=>False) w' [qa8 tU8 1 o' n' c' (u8s (evI fr ⟨t,k,d,W,H⟩))]:=by
 obtain⟨⟨r,s⟩,v⟩:=qfV hB;dsimp only at r s v;have a4:0<=k/\k<=3:=by omega
 have a5:0<=W/\0<=H:=by omega
 have a6:=qH k.toNat;have a7:=qH (t-fr).toNat;have a8:=qH W.toNat;have a9:=qH (d.size:Int).toNat;have h:=Sep.nil w;refine yA Tryz.func38 rfl<|ysr<|yo (zN [iX t,iX k,.string d,iX W,iX H] 66 h fun u aa h=>?_);refine yz 2<|ys<|zDC [7] [0] h fun u h=>ydF [0,1,3,4,5,6] [] h.on (fun u h=>(.l (h.c 0 1) (.l (h.c 0 0) (.q6 (t-fr) .z))))<|yH 2 (yC (qb9 none 0 0 ([]) (k) _ (Own.nil _ _ _) (by omega) (by omega)) ?_);rintro _ u ⟨x,i,y,rfl,j,ab,A⟩;refine⟨_,rfl,?_⟩;rw[iO]at j;have h:=h.app0 j A;have ac:(qv (k).toNat).length=i:=by have:=h.len1 1;rwa[hZ]at this
 refine zHa h<|yK 7 (yC (qb9 x i y (qv (k).toNat) ((t-fr)) _ (h.own 1) (by omega) (by omega)) ?_);rintro _ u ⟨m,b,n,rfl,B,ad,C⟩;refine⟨_,rfl,?_⟩;have h:=h.appI 1 B C;have D:(qv (k).toNat++qv ((t-fr)).toNat).length=b:=by have:=h.len1 1;rwa[hZ]at this
 have E:=D;simp only[hJ]at E;refine q8<|yd [8] [] .z<|yDe (nS ?_);refine ys<|ysr<|yp 3 [] (.l (h.c 0 1) .z)<|ye<|yc (rE k 2) (fun f=>?_) fun f=>?_
 ·have F:=f;refine ys<|zDC [6] [0] h fun u h=>ydF [0,1,2,4,5] [] h.on (fun u h=>(.l (h.c 0 3) (.l (h.c 0 4) .z)))<|yH 3 (yC (qb9 m b n (qv (k).toNat++qv ((t-fr)).toNat) (W) _ (h.own 1) (by omega) (by omega)) ?_);rintro _ u ⟨G,o,I,rfl,J,ae,K⟩;refine⟨_,rfl,?_⟩;have h:=h.appI 1 J K;have L:(qv (k).toNat++qv ((t-fr)).toNat++qv (W).toNat).length=o:=by have:=h.len1 1;rwa[hZ]at this
  have M:=L;simp only[hJ]at M;refine zHs h<|yK 6 (yC (qb9 G o I (qv (k).toNat++qv ((t-fr)).toNat++qv (W).toNat) (H) _ (h.own 1) (by omega) (by omega)) ?_);rintro _ u ⟨N,p,O,rfl,P,af,Q⟩;refine⟨_,rfl,?_⟩;have h:=h.appI 1 P Q;have R:(qv (k).toNat++qv ((t-fr)).toNat++qv (W).toNat++qv (H).toNat).length=p:=by have:=h.len1 1;rwa[hZ]at this
  have S:=R;simp only[hJ]at S;refine q8<|yd [7] [] .z<|yDe (nS ?_);refine q9 (rS (yR1 (.slice (N.map at0) p O) ?_));have g:(qv (k).toNat++qv ((t-fr)).toNat++qv (W).toNat++qv (H).toNat:List Int)=evI fr ⟨t,k,d,W,H⟩:=by unfold evI;dsimp only;rw[if_pos F];simp only[ie]
  rw[g]at h;exact⟨_,_,_,rfl,(h.ord [1]).eqv⟩
 have T:=f;refine yk<|ys<|zDC [7] [0] h fun u h=>ydF [0,1,2,3,5,6] [] h.on (fun u h=>(.l (h.c 0 2) (.l (h.c 0 2) .z)))<|yH 4 (yC (qb9 m b n (qv (k).toNat++qv ((t-fr)).toNat) (((d).size:Int)) _ (h.own 1) (by omega) (by omega)) ?_);rintro _ u ⟨U,a,V,rfl,X,ag,Y⟩;refine⟨_,rfl,?_⟩;have h:=h.appI 1 X Y;have Z:(qv (k).toNat++qv ((t-fr)).toNat++qv (((d).size:Int)).toNat).length=a:=by have:=h.len1 1;rwa[hZ]at this
 have a0:=Z;simp only[hJ]at a0;refine zHs h ?_;refine yK 7 (e_appS 5 U a V (u8s (qv (k).toNat++qv ((t-fr)).toNat++qv (((d).size:Int)).toNat)) d (some 31) (a+(d).size) rfl (by kernel_rfl) (h.own 1) (by constructor<;>first|omega|(simp only[maxLen];omega)) ?_);intro u a1 a2 q a3;rw[bytV_app]at q;have h:=h.appI 1 q a3;have ah:(qv (k).toNat++qv ((t-fr)).toNat++qv (((d).size:Int)).toNat++qaT d).length=(a+(d).size):=by have:=h.len1 1;rwa[hZ]at this
 refine q8<|yd [8] [] .z<|yDe (nS ?_);refine q9 (yR1 (.slice (a1.map at0) (a+(d).size) a2) ?_);have g:(qv (k).toNat++qv ((t-fr)).toNat++qv (((d).size:Int)).toNat++qaT d:List Int)=evI fr ⟨t,k,d,W,H⟩:=by unfold evI;dsimp only;rw[if_neg T];unfold qbt;rw[il];simp only[ie]
 rw[g]at h;exact⟨_,_,_,rfl,(h.ord [1]).eqv⟩
theorem qqM {w:World}{b o:Nat}{kx:Nat->Option Addr×Nat×Nat}{l:List Ky}(h:Rd w (some ⟨b,o,none⟩) (qaC kx l 0))(x:Int)(i:Nat)(hx:x.toNat=i)(hi:i<l.length):w.cell? ⟨b,o+x.toNat*2,none⟩=some (iX (gky l i).after)/\w.cell? ⟨b,o+x.toNat*2+1,none⟩=some (.slice (kx i).1 (kx i).2.1 (kx i).2.2):=by
 obtain⟨e,a⟩:=qf3 kx l 0 i hi;rw[iJ]at a;have c:=h.2 ⟨b,o,none⟩ rfl _ _ e;have d:=h.2 ⟨b,o,none⟩ rfl _ _ a;rw[qaZ]at c d;rw[hx];exact⟨c,d⟩
theorem qkB {T0:TS}{r:Rc}(a0:Option Addr)(n0 c0:Nat)(ea:Option Addr)(ec:Nat)(ka:Option Addr)(kc:Nat)(kx:Nat->Option Addr×Nat×Nat)(wh:Bool)(w:World)(hs:Rd w a0 (u8s r.start))(hsl:r.start.length=n0)(hsz:a0=none->c0=0)(he:Rd w ea (evsV r.evs))(hez:r.evs.length=0\/ ∃b off,ea=some ⟨b,off,none⟩)(hk:Rd w ka (qaC kx r.keys 0))(hkz:r.keys.length=0\/ ∃b off,ka=some ⟨b,off,none⟩)(hkr:∀i,i<r.keys.length->Rd w (kx i).1 (u8s (gky r.keys i).state)/\(gky r.keys i).state.length=(kx i).2.1/\((kx i).1=none->(kx i).2.2=0))(hOk:RcOk T0 r)(hW:RcB r)(hen:r.evs.length<=1800000/\r.keys.length<=1800000):CP 54 [.slice a0 n0 c0,.slice ea r.evs.length ec,.slice ka r.keys.length kc,.bool wh].toArray w fun e w'=> ∃o' n' c',e= .returned (.slice (o'.map at0) n' c')/\Sep w (fun _=>False) w' [qa8 tU8 1 o' n' c' (u8s (qaK r wh))]:=by
 have bo:=hW.st.2;have h:=Sep.nil w;refine yA Tryz.func54 rfl<|yx 1<|ysr<|yq 1<|yo (yC (qco none 0 0 ([]) 83 a0 n0 c0 (r.start) _ (Rd.nil _ _) rfl (fun _=>rfl) (hs.ch h.ch fun _ _ h=>h) hsl hsz hW.st.1 (by decide) (by omega)) ?_);rintro _ u ⟨Q,G,R,rfl,ai⟩;refine⟨_,rfl,?_⟩;have h:=h.join ai;rw[iO]at h;have bp:=qa2 83 (r.start);have bq:(qK 83 (r.start)).length=G:=by have:=h.len1 0;rwa[hZ]at this
 refine yz 3<|yx 1<|yx 2<|ys<|yx 1<|qa ?_;have h:=(h.ord [0]).own0 tU8 1;refine qV [1,2,3,9,10,11,12,13] (f':=[(1,.slice ea r.evs.length ec),(2,.slice ka r.keys.length kc),(3,.bool wh),(9,.slice (Q.map at0) G R),(10,nX),(11,iX 0),(12,iX 0),(13,iX 0)])<|qw (σ:=Nat×Int×Int×Option Nat×Nat×Nat×Option Nat×Nat×Nat) (fun⟨i,fr,kk,o,n,c,p,m,q⟩=>[(1,.slice ea r.evs.length ec),(2,.slice ka r.keys.length kc),(3,.bool wh),(9,.slice (o.map at0) n c),(10,.slice (p.map at0) m q),(11,iX fr),(12,iX kk),(13,iX ((i:Nat):Int))]) (fun⟨i,fr,kk,o,n,c,p,m,q⟩ u=>i<=r.evs.length+1/\(i<=r.evs.length->fr=qQ r.evs i)/\kk=(((qk r i).k:Nat):Int)/\Sep w (fun _=>False) u [qa8 tU8 1 o n c (u8s (qk r i).out),qa8 tU8 1 p m q (u8s (qfd r (qk r i).pos (qk r i).k))]) (fun⟨i,fr,kk,o,n,c,p,m,q⟩=>r.evs.length+1-i) (0,0,0,Q,G,R,none,0,0) rfl ?_ ?_
 ·exact⟨ir _,(fun _=>rfl),rfl,h.take 2⟩
 intro q0 u ak br S;obtain⟨i,fr,kk,o,n,c,p,m,q⟩:=q0;obtain⟨hi,B,T,h⟩:=ak;have al:((qk r i).out).length=n:=by have:=h.len1 0;rwa[hZ]at this
 have am:((qfd r (qk r i).pos (qk r i).k)).length=m:=by have:=h.len1 1;rwa[hZ]at this
 have bs:=qqK hW i 0;refine ys<|yx 4<|yc (rM ((i:Nat):Int) (r.evs.length:Int)) (fun H=>?_) fun H=>?_
 ·have bt:=H;refine yk<|ys<|qa<|ys<|yx 3<|qa ?_;have h:=h.ord [0,1];have h:=h.eqv (m:=[qa8 tU8 1 o n c (u8s (qfi r i 0).out),qa8 tU8 1 p m q (u8s (qj3 r i 0))]) (e:=by unfold qj3;rw[qmK];rfl);refine qV [1,2,3,9,10,11,12,13,25,26,27] (f':=[(1,.slice ea r.evs.length ec),(2,.slice ka r.keys.length kc),(3,.bool wh),(9,.slice (o.map at0) n c),(10,.slice (p.map at0) m q),(11,iX fr),(12,iX kk),(13,iX ((i:Nat):Int)),(25,.slice ka r.keys.length kc),(26,iX (r.keys.length:Int)),(27,iX 0)])<|qw (σ:=Nat×Int×Option Nat×Nat×Nat×Option Nat×Nat×Nat) (fun⟨j,kj,t,d,v,s,g,f⟩=>[(1,.slice ea r.evs.length ec),(2,.slice ka r.keys.length kc),(3,.bool wh),(9,.slice (t.map at0) d v),(10,.slice (s.map at0) g f),(11,iX fr),(12,iX kj),(13,iX ((i:Nat):Int)),(25,.slice ka r.keys.length kc),(26,iX (r.keys.length:Int)),(27,iX (j:Int))]) (fun⟨j,kj,t,d,v,s,g,f⟩ u=>j<=r.keys.length/\kj=(((qfi r i j).k:Nat):Int)/\Sep w (fun _=>False) u [qa8 tU8 1 t d v (u8s (qfi r i j).out),qa8 tU8 1 s g f (u8s (qj3 r i j))]) (fun⟨j,kj,t,d,v,s,g,f⟩=>r.keys.length-j) (0,kk,o,n,c,p,m,q) rfl ?_ ?_
  ·exact⟨ir _,by rw[qmK];exact T,h.take 2⟩
  intro f u an bu U;obtain⟨j,kj,t,d,v,s,g,f⟩:=f;obtain⟨hj,C,h⟩:=an;have D:((qfi r i j).out).length=d:=by have:=h.len1 0;rwa[hZ]at this
  have ao:((qj3 r i j)).length=g:=by have:=h.len1 1;rwa[hZ]at this
  have ap:=qqK hW i j;have bv:=mid_k hOk (i:=i) (by omega) j;have V:=qmL r (qfi r i j).pos (qfi r i j).k;have bw:(qj3 r i j).length<=30*(qfi r i j).k+10:=V;refine yx 1<|ys<|yc (rL (j:Int) (r.keys.length:Int)) (fun I=>?_) fun I=>?_
  ·have bx:=I;obtain⟨kb,ko,rfl⟩:=hkz.resolve_left (by omega);have aq:=hW.ks j (by omega);obtain⟨ar,bz,au⟩:=hkr j (by omega);refine yk<|ys<|qa<|ysr<|yp 2 [] (.i (j:Int) (r.keys.length) (.m (qqM (hk.ch h.ch fun _ _ h=>h) ((j:Int)) j (by omega) (by omega)).1 (.m (qqM (hk.ch h.ch fun _ _ h=>h) ((j:Int)) j (by omega) (by omega)).2 (.e .z))))<|yo (zN [iX 0,nX] 107 h fun u bA h=>?_);refine yo (zs h 2 fun u h=>?_);refine ye<|ysr<|yp 4 [] (.l (h.c 2 0) .z)<|ye<|yc (rE (((gky r.keys j).after:Nat):Int) ((i:Nat):Int)) (fun J=>?_) fun J=>?_
   ·have bB:=J;have W:(gky r.keys j).after=i:=by omega
    have hY:=qqJ hOk (i:=i) (j:=j) (by omega) (by omega) W;have av:(((qk r i).out.length:Nat))=d:=by rw[<-hY.2.1];exact D
    have aw:=hW.tm (n:=i) (by omega);rw[<-B (by omega)]at aw;have ax:=qH (((i:Nat):Int)).toNat;have bC:=qH fr.toNat;have bD:=qH ((d:Int)).toNat;have bE:=qH ((((gky r.keys j).after:Nat):Int)).toNat;refine ysr<|yq 2<|yo (yC (qb9 s g f ((qj3 r i j)) (((i:Nat):Int)) _ (h.own 1) (by omega) (by omega)) ?_);rintro _ u ⟨ay,X,az,rfl,aA,bF,aB⟩;refine⟨_,rfl,?_⟩;have h:=h.appI 1 aA aB;have aC:((qj3 r i j)++qv (((i:Nat):Int)).toNat).length=X:=by have:=h.len1 1;rwa[hZ]at this
    have aD:=aC;simp only[hJ]at aD;refine yq 4<|yo (yC (qb9 ay X az ((qj3 r i j)++qv (((i:Nat):Int)).toNat) (fr) _ (h.own 1) (by omega) (by omega)) ?_);rintro _ u ⟨aE,Y,aF,rfl,aG,bG,aH⟩;refine⟨_,rfl,?_⟩;have h:=h.appI 1 aG aH;have aI:((qj3 r i j)++qv (((i:Nat):Int)).toNat++qv (fr).toNat).length=Y:=by have:=h.len1 1;rwa[hZ]at this
    have aJ:=aI;simp only[hJ]at aJ;refine yq 7<|yo (yC (qb9 aE Y aF ((qj3 r i j)++qv (((i:Nat):Int)).toNat++qv (fr).toNat) ((d:Int)) _ (h.own 1) (by omega) (by omega)) ?_);rintro _ u ⟨Z,K,a1,rfl,aK,bH,aL⟩;refine⟨_,rfl,?_⟩;have h:=h.appI 1 aK aL;have aM:((qj3 r i j)++qv (((i:Nat):Int)).toNat++qv (fr).toNat++qv ((d:Int)).toNat).length=K:=by have:=h.len1 1;rwa[hZ]at this
    have aN:=aM;simp only[hJ]at aN;refine yz 9<|ysr<|yp 3 [] (.q6 (kj+1) .z)<|ye<|zDC [6,7] [0,1,2] h fun u h=>ydF [0,1,2,4,5] [] h.on (fun u h=>(.l (h.c 2 0) (.l (h.c 2 1) .z)))<|yH 3 (yC (qb9 none 0 0 ([]) ((((gky r.keys j).after:Nat):Int)) _ (Own.nil _ _ _) (by omega) (by omega)) ?_);rintro _ u ⟨bI,E,bJ,rfl,a3,bK,aO⟩;refine⟨_,rfl,?_⟩;rw[iO]at a3;have h:=h.app0 a3 aO;have bL:(qv ((((gky r.keys j).after:Nat):Int)).toNat).length=E:=by have:=h.len1 3;rwa[hZ]at this
    refine zHa h<|yK 6 (zA (a2:=(kx j).1) (ys:=u8s ((gky r.keys j).state)) 3 1 (kx j).2.1 (kx j).2.2 (E+(kx j).2.1) (u8s (qv ((((gky r.keys j).after:Nat):Int)).toNat++(gky r.keys j).state)) h (ar.ch h.ch fun _ _ h=>h) (qN _) (hz:=(qaR _ _).symm) (hy:=(by rw[qU];omega)) (hn2:=au) fun u aP aQ h bM=>?_);have a4:(qv ((((gky r.keys j).after:Nat):Int)).toNat++(gky r.keys j).state).length=(E+(kx j).2.1):=by have:=h.len1 3;rwa[hZ]at this
    refine q8 ?_;have aR:=a4;simp only[hJ]at aR;refine yK 7 (yC (qco (t.map at0) d v ((qfi r i j).out) 75 (aP.map at0) (E+(kx j).2.1) aQ (qv ((((gky r.keys j).after:Nat):Int)).toNat++(gky r.keys j).state) _ (h.ownRd' 0) D (h.own 0).nz (h.ownRd' 3) a4 (h.own 3).nz (ql (qp (by omega)) aq.1) (by decide) (by omega)) ?_);rintro _ u ⟨a5,L,a6,rfl,aS⟩;refine⟨_,rfl,?_⟩;have h:=h.join aS;have aT:=qa2 75 (qv ((((gky r.keys j).after:Nat):Int)).toNat++(gky r.keys j).state);simp only[hJ]at aT;have bN:((qfi r i j).out++qK 75 (qv ((((gky r.keys j).after:Nat):Int)).toNat++(gky r.keys j).state)).length=L:=by have:=h.len1 4;rwa[hZ]at this
    refine q8<|yd [8] [] .z<|yDe (nB (nS ?_));refine q7<|yp 2 [] (.q6 ((j:Int)+1) .z) ?_;have h:=h.nrm 2 [iX (((gky r.keys j).after:Nat):Int),.slice (kx j).1 (kx j).2.1 (kx j).2.2];have aU:=mid_j hOk (i:=i) (j:=j) (by omega) (by omega) W;have h:=h.ord [4,1];have h:=h.eqv (m:=[qa8 tU8 1 a5 L a6 (u8s (qfi r i (j+1)).out),qa8 tU8 1 Z K a1 (u8s (qj3 r i (j+1)))]) (e:=by rw[aU,hY.2.2,hY.2.1,B (by omega)];simp only[il,ie,av];rfl);refine yE (fun a ha=>U (j+1,(kj+1),a5,L,a6,Z,K,a1) _ ⟨by omega,by have aV:=C;rw[hY.2.1,hY.1]at aV;rw[hY.2.2];dsimp only;omega,h.take 2⟩ (by show r.keys.length-(j+1)<r.keys.length-j;omega) a (ha.kp [1,2,3,9,10,11,12,13,25,26,27]))
   have bO:=J;have aW:¬(gky r.keys j).after=i:=by omega
   refine qo (nB (nS ?_));refine q7<|yp 2 [] (.q6 ((j:Int)+1) .z) ?_;have h:=h.nrm 2 [iX (((gky r.keys j).after:Nat):Int),.slice (kx j).1 (kx j).2.1 (kx j).2.2];have a7:=mid_no hOk (i:=i) (j:=j) (by omega) (by omega) aW;have h:=h.ord [0,1];have h:=h.eqv (m:=[qa8 tU8 1 t d v (u8s (qfi r i (j+1)).out),qa8 tU8 1 s g f (u8s (qj3 r i (j+1)))]) (e:=by unfold qj3;rw[a7];rfl);refine yE (fun a ha=>U (j+1,kj,t,d,v,s,g,f) _ ⟨by omega,by rw[a7];exact C,h.take 2⟩ (by show r.keys.length-(j+1)<r.keys.length-j;omega) a (ha.kp [1,2,3,9,10,11,12,13,25,26,27]))
  have bP:=I;obtain rfl:j=r.keys.length:=by omega
  unfold qj3 at h;rw[qlt hOk (by omega)]at h C ap;have a8:=C;rw[qlt hOk (by omega)]at D;rw[show qj3 r i r.keys.length=qfd r (qfi r i r.keys.length).pos (qfi r i r.keys.length).k from rfl,qlt hOk (by omega)]at ao;refine qm (eS (qd (qb (nS ?_))));refine yx 4<|yc (rL ((i:Nat):Int) (r.evs.length:Int)) (fun M=>?_) fun M=>?_
  ·have bQ:=M;obtain⟨eb,eo,rfl⟩:=hez.resolve_left (by omega);have y:=hW.ev i (by omega);rw[<-B (by omega)]at y;have bR:=qdF (fr:=fr) y.1;refine ysr<|yp 6 [] (.i ((i:Nat):Int) (r.evs.length) (.m (qak (he.ch h.ch fun _ _ h=>h) (((i:Nat):Int)) i 0 _) (.m (qak (he.ch h.ch fun _ _ h=>h) (((i:Nat):Int)) i 1 _) (.m (qak (he.ch h.ch fun _ _ h=>h) (((i:Nat):Int)) i 2 _) (.m (qak (he.ch h.ch fun _ _ h=>h) (((i:Nat):Int)) i 3 _) (.m (qak (he.ch h.ch fun _ _ h=>h) (((i:Nat):Int)) i 4 _) (.e .z)))))))<|yo (yC (qlu fr (ge r.evs i).time (ge r.evs i).kind (ge r.evs i).w (ge r.evs i).h (ge r.evs i).data _ y.1 ⟨y.2.1,y.2.2⟩) ?_);rintro _ u ⟨aX,a9,aY,rfl,aZ⟩;refine⟨_,rfl,?_⟩;have h:=h.join aZ;have b0:(evI fr (ge r.evs i)).length=a9:=by have:=h.len1 2;rwa[hZ]at this
   refine yo (yC (qco (t.map at0) d v ((qbu r i (qk r i)).out) 69 (aX.map at0) a9 aY (evI fr (ge r.evs i)) _ (h.ownRd' 0) D (h.own 0).nz (h.ownRd' 2) b0 (h.own 2).nz (qdZ y.1 y.2.1) (by decide) (by omega)) ?_);rintro _ u ⟨aa,N,ab,rfl,b1⟩;refine⟨_,rfl,?_⟩;have h:=h.join b1;have bS:=qa2 69 (evI fr (ge r.evs i));have bT:((qbu r i (qk r i)).out++qK 69 (evI fr (ge r.evs i))).length=N:=by have:=h.len1 3;rwa[hZ]at this
   refine yz 9<|q7<|yp 6 [] (.i ((i:Nat):Int) (r.evs.length) (.l (qak (he.ch h.ch fun _ _ h=>h) (((i:Nat):Int)) i 0 _) .z))<|yE (nB (nS ?_));refine q7<|yp 3 [] (.q6 (((i:Nat):Int)+1) .z) ?_;have A:qk r (i+1)=⟨(qbu r i (qk r i)).out++qK 69 (evI (qQ r.evs i) (ge r.evs i)),(qbu r i (qk r i)).pos,(qbu r i (qk r i)).k⟩:=if_pos (by omega);rw[<-B (by omega)]at A;have h:=h.ord [3,1];have h:=h.eqv (m:=[qa8 tU8 1 aa N ab (u8s (qk r (i+1)).out),qa8 tU8 1 s g f (u8s (qfd r (qk r (i+1)).pos (qk r (i+1)).k))]) (e:=by rw[A];rfl);refine yE (fun a ha=>S (i+1,(ge r.evs i).time,kj,aa,N,ab,s,g,f) _ ⟨by omega,(fun b2=>by rw[ev_time]),by rw[A];exact a8,h.take 2⟩ (by show r.evs.length+1-(i+1)<r.evs.length+1-i;omega) a (ha.kp [1,2,3,9,10,11,12,13]))
  have bU:=M;refine qo (nB (nS ?_));refine q7<|yp 3 [] (.q6 (((i:Nat):Int)+1) .z) ?_;have A:qk r (i+1)=(qbu r i (qk r i)):=if_neg (by omega);have h:=h.ord [0,1];have h:=h.eqv (m:=[qa8 tU8 1 t d v (u8s (qk r (i+1)).out),qa8 tU8 1 s g f (u8s (qfd r (qk r (i+1)).pos (qk r (i+1)).k))]) (e:=by rw[A];rfl);refine yE (fun a ha=>S (i+1,fr,kj,t,d,v,s,g,f) _ ⟨by omega,(fun b2=>by omega),by rw[A];exact a8,h.take 2⟩ (by show r.evs.length+1-(i+1)<r.evs.length+1-i;omega) a (ha.kp [1,2,3,9,10,11,12,13]))
 have bV:=H;obtain rfl:i=r.evs.length+1:=by omega
 have b3:=qgl hOk (i:=r.evs.length+1) (iE _);have V:=qmL r (qh r).pos (qh r).k;have ax:=qH kk.toNat;have bW:(qh r).k<=r.keys.length:=b3.1;have b4:kk=(((qh r).k:Nat):Int):=T;have b5:kk.toNat=(qh r).k:=by omega
 have ac:((qh r).out).length=n:=al;have b6:((qfd r (qh r).pos (qh r).k)).length=m:=am;refine qm (eS (qd (qb (nS ?_))));refine ys<|yx 2<|yc (rN (rY wh)) (fun O=>?_) fun O=>?_
 ·have b7:=O;obtain rfl:wh=false:=b7;refine yx 2<|q9 (rS (yR1 (.slice (o.map at0) n c) ?_));have P:((qh r).out:List Int)=qaK r false:=(if_neg jH).symm;rw[P]at h;exact⟨_,_,_,rfl,(h.ord [0]).eqv⟩
 have b8:=O;obtain rfl:wh=true:=b8;refine yk<|yx 3<|ysr<|yq 2<|yo (yC (qb9 none 0 0 ([]) (kk) _ (Own.nil _ _ _) (by omega) (by omega)) ?_);rintro _ u ⟨bX,F,bY,rfl,ad,bZ,b9⟩;refine⟨_,rfl,?_⟩;rw[iO]at ad;have h:=h.app0 ad b9;have c2:(qv (kk).toNat).length=F:=by have:=h.len1 2;rwa[hZ]at this
 refine yq 4<|yo (zA (a2:=(p.map at0)) (ys:=u8s ((qfd r (qh r).pos (qh r).k))) 2 1 m q (F+m) (u8s (qv (kk).toNat++(qfd r (qh r).pos (qh r).k))) h (h.ownRd' 1) (qN _) (hz:=(qaR _ _).symm) (hy:=(by rw[qU];have:=b6;omega)) (hn2:=(h.own 1).nz) fun u ba bb h c3=>?_);have ae:(qv (kk).toNat++(qfd r (qh r).pos (qh r).k)).length=(F+m):=by have:=h.len1 2;rwa[hZ]at this
 have bc:qat (qv kk.toNat++qfd r (qh r).pos (qh r).k):=by rw[b5];exact qnU hW (by omega)
 have bd:=ae;simp only[hJ]at bd;refine yo (yC (qco (o.map at0) n c ((qh r).out) 73 (ba.map at0) (F+m) bb (qv (kk).toNat++(qfd r (qh r).pos (qh r).k)) _ (h.ownRd' 0) ac (h.own 0).nz (h.ownRd' 2) ae (h.own 2).nz bc (by decide) (by omega)) ?_);rintro _ u ⟨bf,af,bg,rfl,bh⟩;refine⟨_,rfl,?_⟩;have h:=h.join bh;have bi:=qa2 73 (qv (kk).toNat++(qfd r (qh r).pos (qh r).k));simp only[hJ]at bi;have ag:((qh r).out++qK 73 (qv (kk).toNat++(qfd r (qh r).pos (qh r).k))).length=af:=by have:=h.len1 3;rwa[hZ]at this
 refine yz 7<|ysr ?_;refine yp 12 [] (.p (q:=0<=((n:Int):Int)/\0<(256:Int)) (by constructor<;>omega) (.q6 ((n:Int)/256) (.p (q:=0<=((n:Int):Int)/\0<(65536:Int)) (by constructor<;>omega) (.q6 ((n:Int)/65536) (.p (q:=0<=((n:Int):Int)/\0<(16777216:Int)) (by constructor<;>omega) (.q6 ((n:Int)/16777216) .z)))))) ?_;refine yo (zB [uX (IntKind.wrap .u8 (n:Int)),uX (IntKind.wrap .u8 ((n:Int)/256)),uX (IntKind.wrap .u8 ((n:Int)/65536)),uX (IntKind.wrap .u8 ((n:Int)/16777216))] 5 4 h fun u bj h=>?_);have bk:=ag;simp only[hJ]at bk;refine yo (yC (qco (bf.map at0) af bg ((qh r).out++qK 73 (qv (kk).toNat++(qfd r (qh r).pos (qh r).k))) 70 (some ⟨bj,0,none⟩) 4 4 ([(IntKind.wrap .u8 (n:Int)),(IntKind.wrap .u8 ((n:Int)/256)),(IntKind.wrap .u8 ((n:Int)/65536)),(IntKind.wrap .u8 ((n:Int)/16777216))]) _ (h.ownRd' 3) ag (h.own 3).nz (Rd.all (h.b 4)) rfl (fun e=>by cases e) (fun x hx=>by simp only[j9,jf,or_false]at hx;rcases hx with rfl|rfl|rfl|rfl<;>exact qge _) (by decide) (by omega)) ?_);rintro _ u ⟨bl,ah,bm,rfl,bn⟩;refine⟨_,rfl,?_⟩;have h:=h.join bn;have c4:=qa2 70 ([(IntKind.wrap .u8 (n:Int)),(IntKind.wrap .u8 ((n:Int)/256)),(IntKind.wrap .u8 ((n:Int)/65536)),(IntKind.wrap .u8 ((n:Int)/16777216))])
 have c5:((qh r).out++qK 73 (qv (kk).toNat++(qfd r (qh r).pos (qh r).k))++qK 70 ([(IntKind.wrap .u8 (n:Int)),(IntKind.wrap .u8 ((n:Int)/256)),(IntKind.wrap .u8 ((n:Int)/65536)),(IntKind.wrap .u8 ((n:Int)/16777216))])).length=ah:=by have:=h.len1 5;rwa[hZ]at this
 refine yz 15<|q9 (yR1 (.slice (bl.map at0) ah bm) ?_);have P:((qh r).out++qK 73 (qv (kk).toNat++(qfd r (qh r).pos (qh r).k))++qK 70 ([(IntKind.wrap .u8 (n:Int)),(IntKind.wrap .u8 ((n:Int)/256)),(IntKind.wrap .u8 ((n:Int)/65536)),(IntKind.wrap .u8 ((n:Int)/16777216))]):List Int)=qaK r true:=by unfold qaK;rw[if_pos rfl,idx_all,qj4,qj4,qj4,b4,il,<-ac,ie];rfl
 rw[P]at h;exact⟨_,_,_,rfl,(h.ord [5]).eqv⟩
theorem qqN {kx:Nat->Option Addr×Nat×Nat}{l:List Ky}{k:Nat}(h:k<l.length):qaC kx (l.take k) 0++[iX (((gky l k).after:Nat):Int),.slice (kx k).1 (kx k).2.1 (kx k).2.2]=qaC kx (l.take (k+1)) 0:=by
 rw[qmt h,qh2,iJ,im,jK (by omega)]
theorem Own.kz {w:World}{e:TypeId}{o:Option Nat}{n c:Nat}{x:List Value}(h:Own w e 2 o n c x):n=0\/ ∃b off,o.map at0=some ⟨b,off,none⟩:=by
 cases o with
 |none=>exact .inl (h.2.2.2.1 rfl).1
 |some q=>exact .inr ⟨q,0,rfl⟩
theorem qqO (b1:Nat){sa1:Option Addr}{sn1 sc1:Nat}{eo1:Option Nat}{ec1:Nat}{ko1:Option Nat}{kc1:Nat}{kx1:Nat->Option Addr×Nat×Nat}{r1:Rc}{T0:TS}(wh:Bool)(w:World)(hR1:RcRd w b1 sa1 sn1 sc1 eo1 ec1 ko1 kc1 kx1 r1)(hOk:RcOk T0 r1)(hW:RcB r1)(hen:r1.evs.length<=1800000/\r1.keys.length<=1800000):CP 26 [pX b1,.bool wh].toArray w fun e w'=> ∃o' n' c',e= .returned (.slice (o'.map at0) n' c')/\Sep w (fun _=>False) w' [qa8 tU8 1 o' n' c' (u8s (qaK r1 wh))]:=by
 have h:=Sep.nil w;refine yA Tryz.func26 rfl<|yx 1<|yx 1<|ys<|ysr<|yp 6 [] (.l (hR1.ch h.ch).c2 .z)<|ye<|qa<|qV [0,1,5,11,12,13] (f':=[(0,pX b1),(1,.bool wh),(5,nX),(11,.slice (ko1.map at0) r1.keys.length kc1),(12,iX (r1.keys.length:Int)),(13,iX 0)])<|qw (σ:=Nat×Option Nat×Nat) (fun⟨k,o,c⟩=>[(0,pX b1),(1,.bool wh),(5,.slice (o.map at0) k c),(11,.slice (ko1.map at0) r1.keys.length kc1),(12,iX (r1.keys.length:Int)),(13,iX (k:Int))]) (fun⟨k,o,c⟩ u=>k<=r1.keys.length/\Sep w (fun _=>False) u [qa8 107 2 o k c (qaC kx1 (r1.keys.take k) 0)]) (fun⟨k,o,c⟩=>r1.keys.length-k) (0,none,0) rfl ?_ ?_
 ·exact⟨ir _,h.own0 107 2⟩
 intro q u g v j;obtain⟨k,o,c⟩:=q;obtain⟨hk,h⟩:=g;refine yx 1<|ys<|yc (rL (k:Int) (r1.keys.length:Int)) (fun d=>?_) fun d=>?_
 ·have y:=d;obtain⟨A,rfl⟩:=(hR1.ch h.ch).kb (by omega);refine yk<|ys<|qa<|ysr<|yp 2 [] (.i (k:Int) (r1.keys.length) (.m ((hR1.ch h.ch).kyx (x:=(k:Int)) (i:=k) (by omega) (by omega)).1 (.m ((hR1.ch h.ch).kyx (x:=(k:Int)) (i:=k) (by omega) (by omega)).2 (.e .z))))<|yo (zN [iX 0,nX] 51 h fun u B h=>?_);refine yo (zs h 1 fun u h=>?_);refine ye<|q7<|yp 6 [] (.l (h.c 1 0) (.l (h.c 1 1) .z))<|yo (zB [iX (((gky r1.keys k).after:Nat):Int),.slice (kx1 k).1 (kx1 k).2.1 (kx1 k).2.2] 107 1 h fun u C h=>?_);have h:=h.nrm 1 [iX (((gky r1.keys k).after:Nat):Int),.slice (kx1 k).1 (kx1 k).2.1 (kx1 k).2.2];refine yo (zA 0 32 1 1 (k+1) (qaC kx1 (r1.keys.take (k+1)) 0) h (Rd.all (h.b 2)) rfl (hz:=qqN (by omega)) fun u n p h D=>?_);refine yq 9<|yE (nB (nS ?_));refine q7<|yp 2 [] (.q6 ((k:Int)+1) .z)<|yE (fun a ha=>j (k+1,n,p) _ ⟨by omega,h.take 1⟩ (by show r1.keys.length-(k+1)<r1.keys.length-k;omega) a (ha.kp [0,1,5,11,12,13]))
 have E:=d;obtain rfl:k=r1.keys.length:=by omega
 rw[jc]at h;refine qm (eS (qd (qb (nS ?_))));refine ys<|zD [10] h fun u h=>yd (uL 0 10) [] (.l (hR1.ch h.ch).c0 (.l (hR1.ch h.ch).c1 .z))<|yK 10 (yC (qkB sa1 sn1 sc1 (eo1.map at0) ec1 (o.map at0) c kx1 wh _ (hR1.ch h.ch).st (hR1.ch h.ch).sl (hR1.ch h.ch).sz (hR1.ch h.ch).ev (hR1.ch h.ch).ez (h.own 0).rd (h.own 0).kz ((hR1.ch h.ch).kr) hOk hW hen) ?_);rintro _ u ⟨r,f,s,rfl,t⟩;refine⟨_,rfl,?_⟩;have h:=h.join t;have F:(qaK r1 wh).length=f:=by have:=h.len1 1;rwa[hZ]at this
 refine q8<|yd [11] [] .z<|yDe (nS ?_);refine q9 (yR1 (.slice (r.map at0) f s) ?_);exact⟨_,_,_,rfl,(h.ord [1]).eqv⟩
section
variable {w0 w w':World}{F0:Nat->Prop}{l:List Asn}{b sb:Nat}{q:Fl}{qu lf:Int}{s:Sc}{T0:TS}{r:Rc}{whole:Bool}
theorem Sep.lastD (h:Sep w0 F0 w l)(i:Nat)(hi:l[i]? =some (qhp b sb q qu lf s):=by rfl):CP 25 [.pointer (some ⟨b,0,none⟩)].toArray w (RQ (.int .i64 (qa1 s.r.evs)) w):=by
 obtain⟨x,tl,h⟩:=h.outD i hi;exact qcV b w (h.rcx 1 (b:=b) (r:=s.r) x tl qaz)
theorem Sep.dec13R (h:Sep w0 (fun _=>False) w l)(hT:LT w0)(h7:gTop<=w0.heap.size)(i:Nat){d c:Nat}(hOk:RcOk T0 r)(hW:RcB r)(hs:r.start=qa0 T0)(hT0:OkS T0)(hk:r.keys.length<=100000)(hl:(qaK r whole).length<=9000000)(hc:(qaK r whole).length<=c)(hi:l[i]? =some (roA [(some ⟨d,0,none⟩,qaK r whole)]):=by rfl):
  CP 19 [.slice (some ⟨d,0,none⟩) (qaK r whole).length c].toArray w fun e w'=> ∃b x tl,e= .returned (.tuple #[.pointer (some ⟨b,0,none⟩),.int .i64 0])/\Sep w0 (fun _=>False) w' (l++recL b r x tl qiX):=by
 have hR:=h.ro i hi _ (List.mem_singleton_self _);have hd:qo2 T0 r.start=some T0:=by rw[hs];exact qqm T0
 have hr:=qha (dec:=qo2 T0) hOk hW hd (by omega) whole;have a:=qmD (dec:=qo2 T0) hOk hW hd (by omega) whole;refine(qh9 (dec:=qo2 T0) (some ⟨d,0,none⟩) _ c (qaK r whole) w (qaW h.ch hT (fun _ h=>h.elim)) (iq h7 h.ch.size) hR rfl hc (.inr ⟨d,0,rfl⟩) (qfb hW (by omega) whole) hl (qqn hT0) (fun s k hh=>?_)).mono fun e w' ⟨v,x,he,hv⟩=>?_
 ·rw[hr]at hh
  obtain⟨rfl,rfl⟩:=iC (ia hh);exact⟨hW,qfb hW (by omega) true⟩
 ·rcases hv with⟨hn,_⟩|⟨b,s,f,rfl,rfl,hN⟩
  ·rw[a]at hn;cases hn
  ·rw[a]at f
   obtain rfl:=ia f;obtain⟨x,tl,hN⟩:=hN.scan;exact⟨b,x,tl,he,h.join hN⟩
end
def evZ (t:Int):Ev:=⟨t,0,ByteArray.empty,0,0⟩
theorem evZ_ok {t:Int}(h:0<=t/\t<4611686018427387904):evB (evZ t)=true:=by
 unfold evB evZ;rw[if_neg (by simp;omega)];simp
theorem evZ_no:evB (evZ (-1))=false:=by decide
theorem EvsOk.lastB {l:List Ev}(h:EvsOk l):0<=qa1 l/\qa1 l<4611686018427387904:=by
 unfold qa1 qQ;split
 ·decide
 ·have a:=h.tm (l.length-1) (by omega)
  have c:=(qfV (h.evb (l.length-1) (by omega))).1;omega
theorem BuiltF.idx {p:Plan}{r:Rc}(h:BuiltF p r):(qaG r (((qh r).out.length:Nat):Int) (qh r).pos).length<=4000000/\qaK r false++qaG r (((qh r).out.length:Nat):Int) (qh r).pos=qaK r true:=by
 have:=h.ln true;unfold qaK at this⊢;rw[if_pos rfl,hJ]at this;rw[if_pos rfl,if_neg jH];exact⟨by omega,rfl⟩
theorem qkC (sb:Nat)(x:StX)(q:Fl)(qu lf:Int)(w:World)(hS:StRd w sb ⟨some q,qu,false,lf,false⟩ x)(hz:q.data.length<=1000000000):CP 35 [pX sb].toArray w (RQ (.string (qf q.data)) w):=by
 have h:=Sep.nil w;refine yA Tryz.func35 rfl<|yx 1<|ysr<|yq 1<|yo (yC (qqs sb x q qu false lf false _ (hS.ch h.ch) rfl hz) ?_);rintro _ u ⟨b,a,c,rfl,d⟩;refine⟨_,rfl,?_⟩;have h:=h.join d;have f:(q.data).length=a:=by have:=h.len1 0;rwa[hZ]at this
 refine yz 7<|ysr<|yq 1<|yo (qE (b.map at0) a c (q.data) (some 11) (by kernel_rfl) (h.ownRd' 0) f ?_);refine yz 3<|q9 (yR1 (.string (qf (q.data))) ?_);exact⟨rfl,h.ch⟩
theorem fin13_any (p:Plan)(w:World)(hT:LT w)(h7:gTop<=w.heap.size)(hP:PlanIn w p):CP 10 [p.val].toArray w (RQ (.bool true) w):=by
 have h:=Sep.nil w;refine yA Tryz.func10 rfl<|ysr<|yo (zN [iX p.p1,iX p.p2,.slice p.ea p.en p.ec,.slice p.ma p.mn p.mc] 26 h fun u E h=>?_);refine yz 2<|ys<|ysr<|yo (yQ (h.look (qqE _ (qaW h.ch hT (fun _ h=>h.elim)) (iq h7 h.ch.size))) fun u h=>?_);refine yz 2<|ycf<|yk<|ys<|ysr<|yp 1 [] (.a (h.cs 0 0 4) .z)<|yo (yC (pfew_any p _) ?_);rintro _ u ⟨a5,rfl,a6,a7⟩;refine⟨_,rfl,?_⟩;have h:=h.same a7;refine yz 3<|yc (rN (rY a5)) (fun x=>?_) fun x=>?_
 ·have aO:=x;refine yx 1<|q9 (rS (yR1 (.bool true) ?_));exact⟨rfl,h.ch⟩
 have a8:=x;obtain⟨G,aP⟩:=a6.1 a8;obtain⟨n,aQ⟩:=Plan.tok (p:=p) (by have:=hP.el;omega);have aR:=hP.el;have aS:p.t.length=p.en:=by omega
 refine yk<|ysr<|yo (yC (qmm 1073741824 _) ?_);rintro _ u ⟨d,rfl,a9⟩;refine⟨_,rfl,?_⟩;have h:=h.addN a9;rw[show max (1073741824:Int) 0=1073741824 by decide]at h;refine yz 2<|ysr<|yp 7 [] (.i 0 (2) (.l (h.c 0 0) (.i 1 (2) (.l (h.c 0 1) .z))))<|yo (yC (qeS (p.p1) (p.p2) _ (qaW h.ch hT (fun _ h=>h.elim)) (iq h7 h.ch.size)) ?_);rintro _ u ⟨aa,rfl,ab,ac⟩;refine⟨_,rfl,?_⟩;have h:=h.newTm (U:=p.T0) ab ac;obtain⟨H,y,I,J⟩:=h.ex;have aT:=qa2 83 (qa0 p.T0);have aU:=qcl p.ok.dec;refine yo (yC (qi7 d aa p.T0 1073741824 0 (H 1) (H 2) _ (y 1 _ rfl) (h.gz (gz0 h7) (J 1)) (y 2 _ rfl) (I 2 1 (by decide)) p.ok (by omega) (by decide)) ?_);rintro _ u ⟨f,rfl,ad⟩;refine⟨_,rfl,?_⟩;have h:=h.into 1 y I J (by simp only[hJ,iz,iP];omega) ad;refine yz 14<|ys<|yx 6<|ycf<|yk<|ys<|ysr<|yp 1 [] (.a (h.cs 0 0 4) .z)<|yo (yC (qqA p _ (hP.ch h.ch) G) ?_);rintro _ u ⟨o,v,rfl,ae⟩;refine⟨_,rfl,?_⟩;have h:=h.join ae;refine yz 4<|qa ?_;have h:=Sep.pack (L:=fun _:Unit=>[qJ d ⟨some ⟨qK 83 (qa0 p.T0),0⟩,1073741824,false,0,false⟩,qdK f d ⟨qcr p.T0 p.t 0,p.T0⟩]) () ((h.ord [0,4,1,3]).eqv (m:=[qbB E [iX p.p1,iX p.p2,.slice p.ea p.en p.ec,.slice p.ma p.mn p.mc] 26,qa8 tEv 5 o p.en v (evsV p.t)]++[_,_]));refine qV [3,4,36,37,38] (f':=[(3,pX d),(4,pX f),(36,.slice (o.map at0) p.en v),(37,iX (p.en:Int)),(38,iX 0)])<|qw (σ:=Nat×List Int) (fun⟨k,da⟩=>[(3,pX d),(4,pX f),(36,.slice (o.map at0) p.en v),(37,iX (p.en:Int)),(38,iX (k:Int))]) (fun⟨k,da⟩ u=>k<=p.en/\da.length<=300015+301000*k/\da=qaK (qcr p.T0 p.t k) false/\Sep w (fun _=>False) u [qbB E [iX p.p1,iX p.p2,.slice p.ea p.en p.ec,.slice p.ma p.mn p.mc] 26,qa8 tEv 5 o p.en v (evsV p.t),logA f d ⟨da,0⟩ 1073741824 0 ⟨qcr p.T0 p.t k,qaS p.T0 p.t k⟩]) (fun⟨k,da⟩=>p.en-k) (0,qK 83 (qa0 p.T0)) rfl ?_ ?_
 ·exact⟨ir _,by omega,encB_0.symm,h.take 3⟩
 intro q u af aV ag;obtain⟨k,da⟩:=q;obtain⟨hk,aW,B,h⟩:=af;refine yx 1<|ys<|yc (rL (k:Int) (p.en:Int)) (fun C=>?_) fun C=>?_
 ·have aX:=C;obtain⟨aY,rfl⟩:=h.isO 1;refine yk<|ys<|qa<|ysr<|yp 2 [] (.i (k:Int) (p.en) (.m (qak (h.own 1).rd ((k:Int)) k 0 _) (.m (qak (h.own 1).rd ((k:Int)) k 1 _) (.m (qak (h.own 1).rd ((k:Int)) k 2 _) (.m (qak (h.own 1).rd ((k:Int)) k 3 _) (.m (qak (h.own 1).rd ((k:Int)) k 4 _) (.e .z)))))))<|yo (zN [iX 0,iX 0,oX,iX 0,iX 0] 66 h fun u aZ h=>?_);refine yo (zs h 3 fun u h=>?_);refine ye<|ysr<|yp 2 [] (.a (h.cs 3 0 5) .z) ?_;have K:=p.ok.fold n k (by omega);have M:=n.evb k (by omega);have N:=n.tm k (by omega);have b0:=addB_len (r:=qcr p.T0 p.t k) K M;have O:qa1 (qcr p.T0 p.t k).evs=qQ p.t k:=qi4 (by omega);have b1:(qcr p.T0 p.t k).evs.length=k:=by show(p.t.take k).length=k;rw[im];omega
  have b2:(qcr p.T0 p.t k).keys.length=k/8:=qbX _ _ _;refine yo (yQ (h.stepA (gz0 h7) 2 (fun F hA j=>qqr f d (qcr p.T0 p.t k) (qaS p.T0 p.t k) da 0 1073741824 0 (ge p.t k) F _ hA j (qaW h.ch hT (fun _ h=>h.elim)) K M (by rw[O];exact N.1) (by rw[O];exact N.2) (by omega) (by omega) (by omega) (by decide))) fun u h=>?_);refine yz 4<|ycf<|qo (nB (nS ?_));refine q7<|yp 2 [] (.q6 ((k:Int)+1) .z) ?_;have h:=h.nrm 3 [iX (ge p.t k).time,iX (ge p.t k).kind,.string (ge p.t k).data,iX (ge p.t k).w,iX (ge p.t k).h];rw[qlr p.T0 p.t (by omega)]at h;refine yE (fun a ha=>ag (k+1,da++qqq ⟨qcr p.T0 p.t k,qaS p.T0 p.t k⟩ (ge p.t k)) _ ⟨by omega,by rw[hJ];omega,by rw[B];exact encB_add (by omega),h.take 3⟩ (by show p.en-(k+1)<p.en-k;omega) a (ha.kp [3,4,36,37,38]))
 have b3:=C;refine qm (eS (qd (qb (nS ?_))));refine ysr<|yq 1 ?_;obtain rfl:k=p.en:=by omega
 obtain⟨r1,P⟩:∃r,r=qcr p.T0 p.t p.en:=⟨_,rfl⟩
 rw[<-P]at h B;have g:BuiltF p r1:=P▸built_f hP.el G;have b4:=g.el;have b5:=g.kl;have ah:=g.idx;have b6:=g.ln true;have b7:=g.ln false;have ai:=(show EvsOk r1.evs from g.ev▸n).lastB;subst B;obtain⟨U,hU⟩:∃U,U=qaS p.T0 p.t p.en:=⟨_,rfl⟩
 rw[<-hU]at h;refine yo (yC (qeS (1) (1) _ (qaW h.ch hT (fun _ h=>h.elim)) (iq h7 h.ch.size)) ?_);rintro _ u ⟨aj,rfl,ak,al⟩;refine⟨_,rfl,?_⟩;have h:=h.newTm (U:=(startT zeroT 1 1)) ak al;obtain⟨am,an⟩:=h.logR 2 (q:=⟨qaK r1 false,0⟩) (A:=qdK f d ⟨r1,U⟩);refine yo (yQ (h.look (qkv d aj am ⟨qaK r1 false,0⟩ 1073741824 0 _ an (by dsimp only;omega))) fun u h=>?_);refine yz 8<|ys<|ysr<|yq 4<|yo (yQ (h.stepA (gz0 h7) 2 (fun F hA j=>qlq f d r1 U (qaK r1 false) 0 1073741824 0 F _ hA j g.W (by omega) (by omega) (by omega) (by decide))) fun u h=>?_);rw[ah.2]at h;refine yq 9<|yo (yQ (h.stepA (gz0 h7) 2 (fun F hA j=>wdead_D f d r1 U (qaK r1 true) (((qaK r1 true).length:Nat):Int) 1073741824 0 F _ hA j)) fun u h=>?_);refine yq 14<|yo (yQ (h.stepA (gz0 h7) 2 (fun F hA j=>qku f d r1 U (qaK r1 true) (((qaK r1 true).length:Nat):Int) 1073741824 0 F _ hA j)) fun u h=>?_);refine yq 22<|yo (yQ (h.look (h.lastD 2 (b:=f) (sb:=d) (q:=⟨qaK r1 true,(((qaK r1 true).length:Nat):Int)⟩) (qu:=1073741824) (lf:=0) (s:=⟨r1,U⟩))) fun u h=>?_);refine yq 24<|yo (yQ (h.stepA (gz0 h7) 2 (fun F hA j=>qqv f d r1 U (qaK r1 true) (((qaK r1 true).length:Nat):Int) 1073741824 0 F _ hA j (evZ (qa1 r1.evs)) (evZ_ok ai) (Int.le_refl _))) fun u h=>?_);refine yq 30<|yo (yQ (h.stepA (gz0 h7) 2 (fun F hA j=>addD_arg f d r1 U (qaK r1 true) (((qaK r1 true).length:Nat):Int) 1073741824 0 F _ hA j (evZ (-1)) evZ_no)) fun u h=>?_)
 refine yz 33<|ycf<|yk<|ysr<|yq 1<|yo (yQ (h.stepA (gz0 h7) 2 (fun F hA j=>crashD_0 f d r1 U (qaK r1 true) 1073741824 0 F _ hA j (by omega))) fun u h=>?_);refine ye<|ysr<|yq 1 ?_;obtain⟨x1,Q,h⟩:=h.outD 2 (b:=f) (sb:=d) (q:=⟨qaK r1 true,(((qaK r1 true).length:Nat):Int)⟩) (qu:=1073741824) (lf:=0) (s:=⟨r1,U⟩);obtain⟨R,S,T,V,X,Y,Z,a0,t1⟩:=x1;obtain⟨ap,aq⟩:=h.stR 0 (q:=⟨qaK r1 true,(((qaK r1 true).length:Nat):Int)⟩) (qu:=1073741824) (lf:=0) (sb:=d);refine yo (yQ (h.look (qkC d ap ⟨qaK r1 true,(((qaK r1 true).length:Nat):Int)⟩ 1073741824 0 _ aq (by dsimp only;omega))) fun u h=>?_);refine yo (zTB h (qaK r1 true) (qfb g.W (by omega) true) fun u b8 b9 ar h=>?_);refine yo (yC (h.dec13R (whole:=true) hT h7 6 g.ok g.W g.st p.ok (by omega) (by omega) ar) ?_);rintro _ u ⟨a2,x2,av,rfl,h⟩;refine⟨_,rfl,?_⟩;obtain⟨aw,ax,ay,az,aA,aB,aC,aD,t2⟩:=x2;refine yz 9<|ys<|zD [1,5,6,17] h fun u h=>yd [0,2,3,4] [] .z ?_;obtain⟨aF,aG⟩:=h.stR 0 (q:=⟨qaK r1 true,(((qaK r1 true).length:Nat):Int)⟩) (qu:=1073741824) (lf:=0) (sb:=d);refine yK 1 (yQ (h.look (qkC d aF ⟨qaK r1 true,(((qaK r1 true).length:Nat):Int)⟩ 1073741824 0 _ aG (by dsimp only;omega))) fun u h=>?_);refine q8<|yK 5 (yC (qqO f (r1:=r1) true _ (h.rcx 1 (b:=f) (r:=r1) ⟨R,S,T,V,X,Y,Z,a0,t1⟩ Q qaz) g.ok g.W ⟨by omega,by omega⟩) ?_);rintro _ u ⟨aH,a3,aI,rfl,aJ⟩
 refine⟨_,rfl,?_⟩;have h:=h.join aJ;have aK:(qaK r1 true).length=a3:=by have:=h.len1 12;rwa[hZ]at this
 refine q8<|yK 6 (qE (aH.map at0) a3 aI (qaK r1 true) (some 101) (by kernel_rfl) (h.ownRd' 12) aK ?_);refine q8<|yd [7,8] [] .z<|yv [103] (rY (((qf (qaK r1 true))).toList==((qf (qaK r1 true))).toList)) (fun D=>?_) fun D=>?_
 ·have ba:=D;refine yd (uL 9 8) [] .z<|yK 17 (yC (qnT a2 f _ (h.rcx 7 (b:=a2) (r:=r1) ⟨aw,ax,ay,az,aA,aB,aC,aD,t2⟩ av qiX) (h.rcx 1 (b:=f) (r:=r1) ⟨R,S,T,V,X,Y,Z,a0,t1⟩ Q qaz) g.W g.W) ?_);rintro _ u ⟨a4,rfl,aL,aM⟩;refine⟨_,rfl,?_⟩;have h:=h.same aM;refine q8<|yd [18,19] [] .z<|yDe (nS ?_);refine q9 (yR1 (.bool a4) ?_);exact⟨by rw[show a4=true from aL.2 rfl],h.ch⟩
 have aN:=D;exact absurd (beq_self_eq_true _) (iY.1 aN)
end Go.Proofs.YtjjcnhgpccancaaGreatDoor.X
namespace Go.Proofs.YtjjcnhgpccancaaGreatDoor
open Go.ChangeShapes Go.WideShapes Go.ChangeAt Go.RowKit
theorem qlv:ownKnob Tryz.prog.godebug=none:=by kernel_rfl
abbrev qnW:List (String×DataW Unit):=[("flipbook/glyph.wide",Rows.laid_flipbook_glyph_wide),("flipbook/glyph.signs",Rows.laid_flipbook_glyph_signs),("math/bits.deBruijn32tab",Rows.laid_math_bits_deBruijn32tab),("math/bits.deBruijn64tab",Rows.laid_math_bits_deBruijn64tab),("internal/strconv.uint64pow10",Rows.laid_internal_strconv_uint64pow10),("unicode/utf8.acceptRanges",Rows.laid_unicode_utf8_acceptRanges),("unicode/utf8.first",Rows.laid_unicode_utf8_first)]
theorem doorMet (os:Os)(args:Array Value):laidMetH Tryz.prog qnW ((World.laidAll Tryz.prog os qnW).forCall (fun _ _=>0) ⟨#[],args,[]⟩).memory:=by
 rw[MakeChecks.laidMetH_plain _ _ _ (by kernel_rfl)];exact laidMet_laidAll _ (by kernel_rfl) (by kernel_rfl)
theorem qnX (os:Os):(World.laidAll Tryz.prog os qnW).Shaped Tryz.prog:=World.shaped_of_ZipB (by kernel_rfl) (by kernel_rfl)
theorem qcB {W:World}{g n t:Nat}{k:IntKind}{e:TypeId}(he:Tryz.prog.underlying e=some (.int k))(ce:Tryz.prog.cellsOf e=1){name:String}{cs:Array Value}{fuel:Nat}{l:List Int}{q:List MemPlace}(hg:Tryz.prog.globalNamed name=some g)(hv:W.var? Tryz.prog name=some cs)
  (hd:DataW.trod (H:=Unit) (fun _=>()) Tryz.prog W 0 (fun _=>true) false fuel t cs.toList=some (.agg (l.map fun n=> .lit (.int k n)),q))
  (ht:Tryz.prog.underlying t=some (.array n e)) (hl:l.length=n):∀r,r<l.length->W.cell? ⟨g,r,none⟩=some (.int k (l.getD r 0)):=by
 obtain⟨xs,m,_,ex,_,i,b⟩:=DataW.trod_array ht hd;intro r hr;have hE:=b r (by omega);rw[ce,Nat.mul_one,List.getElem?_eq_getElem (by omega)]at hE;obtain⟨z,c,d,_⟩:=DataW.trod_int he hE;have f:(xs.map (·.1))=l.map fun n=> .lit (.int k n):=(DataW.agg.inj (Prod.mk.inj ex).1).symm;have a:(xs.map (·.1))[r]? =(l.map fun n=>(DataW.lit (.int k n):DataW Unit))[r]? :=by rw[f]
 rw[List.getElem?_map,List.getElem?_map,List.getElem?_eq_getElem (by omega:r<xs.length),List.getElem?_eq_getElem (by omega:r<l.length),d]at a;have hz:z=l.getD r 0:=by
  simp only[Option.map_some,Option.some.injEq,DataW.lit.injEq,Lit.int.injEq,true_and]at a;rw[a,List.getD,List.getElem?_eq_getElem (by omega:r<l.length)];rfl
 rw[World.var?_cell hg hv r,<-hz];have:cs.toList[r]? =some (.int k z):=by
  have h:((cs.toList.drop r).take 1)[0]? =some (.int k z):=by rw[c];rfl
  simpa using h
 simpa using this
theorem qj5 {W:World}{g n t e u:Nat}{k:IntKind}{fs:Array Field}(hs:Tryz.prog.underlying e=some (.struct fs))(h0:∃f,fs[0]? =some f/\f.type=u/\f.offset=0)(h1:∃f,fs[1]? =some f/\f.type=u/\f.offset=1)(hz:fs.size=2)(hu:Tryz.prog.underlying u=some (.int k))(ce:Tryz.prog.cellsOf e=2)(cu:Tryz.prog.cellsOf u=1)
  {name:String} {cs:Array Value} {fuel:Nat} {l:List (Int×Int)} {q:List MemPlace} (hg:Tryz.prog.globalNamed name=some g) (hv:W.var? Tryz.prog name=some cs)
  (hd:DataW.trod (H:=Unit) (fun _=>()) Tryz.prog W 0 (fun _=>true) false fuel t cs.toList=some (.agg (l.map fun p=> .agg [.lit (.int k p.1),.lit (.int k p.2)]),q))
  (ht:Tryz.prog.underlying t=some (.array n e)) (hl:l.length=n):∀r p,l[r]? =some p->W.cell? ⟨g,r*2,none⟩=some (.int k p.1)/\W.cell? ⟨g,r*2+1,none⟩=some (.int k p.2):=by
 obtain⟨xs,m,_,ex,_,J,o⟩:=DataW.trod_array ht hd;intro r p hp;have hr:r<l.length:=(List.getElem?_eq_some_iff.1 hp).1;have hE:=o r (by omega);rw[ce,List.getElem?_eq_getElem (by omega)]at hE;have s:(xs.map (·.1))=l.map fun p=> .agg [.lit (.int k p.1),.lit (.int k p.2)]:=(DataW.agg.inj (Prod.mk.inj ex).1).symm;have a:(xs.map (·.1))[r]? =(l.map fun p=>(DataW.agg [.lit (.int k p.1),.lit (.int k p.2)]:DataW Unit))[r]? :=by rw[s]
 rw[List.getElem?_map,List.getElem?_map,List.getElem?_eq_getElem (by omega:r<xs.length),hp]at a;simp only[Option.map_some,Option.some.injEq]at a;obtain⟨ys,K,_,ey,_,v,i⟩:=DataW.trod_struct hs hE;rw[ey]at a;have j:=DataW.agg.inj a;obtain⟨f0,w,x,y⟩:=h0;obtain⟨f1,z,A,B⟩:=h1;have b:=i 0 f0 w;have c:=i 1 f1 z;rw[x,y,cu,List.drop_zero,List.take_take]at b;rw[A,B,cu]at c;have hy:ys.length=2:=by rw[v,hz]
 rw[List.getElem?_eq_getElem (by omega)]at b c;obtain⟨L,C,D,_⟩:=DataW.trod_int hu b;obtain⟨M,E,F,_⟩:=DataW.trod_int hu c;have d:(ys.map (·.1))[0]? =some (.lit (.int k p.1)):=by rw[j];rfl
 have h:(ys.map (·.1))[1]? =some (.lit (.int k p.2)):=by rw[j];rfl
 rw[List.getElem?_map,List.getElem?_eq_getElem (by omega),D]at d;rw[List.getElem?_map,List.getElem?_eq_getElem (by omega),F]at h;simp only[Option.map_some,Option.some.injEq,DataW.lit.injEq,Lit.int.injEq,true_and]at d h;subst d h;have G:cs.toList[r*2]? =some (.int k p.1):=by
  have h0:((cs.toList.drop (r*2)).take (min 1 2))[0]? =some (.int k p.1):=by rw[C];rfl
  simpa using h0
 have I:cs.toList[r*2+1]? =some (.int k p.2):=by
  have h0:((((cs.toList.drop (r*2)).take 2).drop 1).take 1)[0]? =some (.int k p.2):=by rw[E];rfl
  simpa using h0
 exact⟨by rw[World.var?_cell hg hv];simpa using G,by rw[World.var?_cell hg hv];simpa using I⟩
def firstL:List Int:=(List.range 256).map X.firstN
def accL:List (Int×Int):=(List.range 16).map X.accN
theorem qj6 {c:Nat}(h:c<256):firstL.length=256/\firstL.getD c 0=X.firstN c:=by
 have e:firstL.length=256:=by simp[firstL]
 refine⟨e,?_⟩;rw[List.getD,firstL,List.getElem?_map,List.getElem?_range h];rfl
theorem acc_at {i:Nat}(h:i<16):accL[i]? =some (X.accN i):=by
 rw[accL,List.getElem?_map,List.getElem?_range h];rfl
set_option maxRecDepth 100000 in
theorem qnY {W:World}(h:laidMetH Tryz.prog qnW W):X.LT W:=by
 rw[MakeChecks.laidMetH_plain _ _ _ (by kernel_rfl)]at h;obtain⟨ps,⟨G,H,I,f0,J,K,a,o,q,r,⟨L,M,N,f1,O,P,b,s,t,v,⟨Q,R,S,f2,T,U,V,Y,Z,a0,⟨g3,t3,a3,f3,p3,q3,a6,a7,a8,a9,⟨g4,t4,ac,f4,p4,q4,d,w,x,y,⟨g5,t5,ah,f5,p5,q5,f,z,A,g,⟨g6,t6,am,f6,p6,q6,j,B,C,m,_,_⟩,_⟩,_⟩,_⟩,_⟩,_⟩,_⟩,_,_⟩:=h;obtain rfl:=Option.some.inj ((show Tryz.prog.globalNamed "flipbook/glyph.wide" =some 0 by kernel_rfl).symm.trans a)
 obtain rfl:=Option.some.inj ((show Tryz.prog.globalNamed "flipbook/glyph.signs" =some 3 by kernel_rfl).symm.trans b)
 obtain rfl:=Option.some.inj ((show Tryz.prog.globalNamed "internal/strconv.uint64pow10" =some 4 by kernel_rfl).symm.trans d)
 obtain rfl:=Option.some.inj ((show Tryz.prog.globalNamed "unicode/utf8.acceptRanges" =some 2 by kernel_rfl).symm.trans f)
 obtain rfl:=Option.some.inj ((show Tryz.prog.globalNamed "unicode/utf8.first" =some 1 by kernel_rfl).symm.trans j)
 obtain rfl:=Option.some.inj ((show(Tryz.prog.globals[0]?).map (·.type)=some 258 by kernel_rfl).symm.trans o);obtain rfl:=Option.some.inj ((show(Tryz.prog.globals[3]?).map (·.type)=some 270 by kernel_rfl).symm.trans s);obtain rfl:=Option.some.inj ((show(Tryz.prog.globals[4]?).map (·.type)=some 284 by kernel_rfl).symm.trans w);obtain rfl:=Option.some.inj ((show(Tryz.prog.globals[2]?).map (·.type)=some 262 by kernel_rfl).symm.trans z);obtain rfl:=Option.some.inj ((show(Tryz.prog.globals[1]?).map (·.type)=some 259 by kernel_rfl).symm.trans B);have D:Rows.laid_unicode_utf8_first= .agg (firstL.map fun n=> .lit (.int .u8 n)):=by kernel_rfl
 rw[D]at m;have E:(Rows.laid_unicode_utf8_acceptRanges:DataW Unit)= .agg (accL.map fun p=> .agg [.lit (.int .u8 p.1),.lit (.int .u8 p.2)]):=by kernel_rfl
 rw[E]at g;refine⟨⟨qcB (k:= .i32) (e:=21) (by kernel_rfl) (by kernel_rfl) a q r (by kernel_rfl) rfl,qcB (k:= .i32) (e:=21) (by kernel_rfl) (by kernel_rfl) b t v (by kernel_rfl) rfl⟩,⟨fun c hc=>?_,fun i hi=>?_⟩,fun i hi=>?_⟩
 ·have:=qcB (k:= .u8) (e:=5) (by kernel_rfl) (by kernel_rfl) j C m (by kernel_rfl) (qj6 hc).1 c (by rw[(qj6 hc).1];exact hc)
  rw[(qj6 hc).2]at this;exact this
 ·exact qj5 (k:= .u8) (e:=261) (u:=5) Tryz.underlying261 ⟨_,rfl,rfl,rfl⟩ ⟨_,rfl,rfl,rfl⟩ rfl Tryz.underlying5 (by kernel_rfl) (by kernel_rfl) f A g Tryz.underlying262 (by simp[accL]) i _ (acc_at hi)
 ·have F:=qcB (k:= .u64) (e:=110) (l:=[1,10,100,1000,10000,100000,1000000,10000000,100000000,1000000000,10000000000,100000000000,1000000000000,10000000000000,100000000000000,1000000000000000,10000000000000000,100000000000000000,1000000000000000000,10000000000000000000]) (by kernel_rfl) (by kernel_rfl) d x y (by kernel_rfl) rfl i (Nat.lt_of_lt_of_le hi (by decide))
  rw[F];obtain rfl|rfl|rfl:i=0\/i=1\/i=2:=by omega
  all_goals rfl
end Go.Proofs.YtjjcnhgpccancaaGreatDoor
namespace Go.Proofs.YtjjcnhgpccancaaGreatDoor
open Go.ChangeShapes Go.WideShapes Go.ChangeAt Go.RowKit
section
variable {H:Type}{enc:TypeId×Value->H}{P:Program}{w:World}{base:Nat}{spare:Nat->Bool}{held:Bool}
theorem qfe {α:Type}{l:List α}{i:Nat}{x:α}(h:(l.drop i).take 1=[x]):l[i]? =some x:=by
 have a:((l.drop i).take 1)[0]? =some x:=by rw[h];rfl
 simpa using a
end
theorem qlw {w w':World}(h:X.Ch (fun _=>False) w w'):Below w.heap.size w w':=⟨h.os,h.tape,h.output,h.size,fun k hk=>h.block k hk id⟩
theorem qlx {W:World}(h:laidMetH Tryz.prog qnW W):X.gTop<=W.heap.size:=by
 rw[MakeChecks.laidMetH_plain _ _ _ (by kernel_rfl)]at h;obtain⟨ps,⟨g,i,j,f0,k,l,n,o,p,q,⟨r,s,t,f1,u,x,y,z,A,B,⟨C,D,E,f2,F,G,I,J,K,L,⟨M,N,a,f3,O,Q,b,c,d,e,_,_⟩,_⟩,_⟩,_⟩,_,_⟩:=h;obtain rfl:=Option.some.inj ((show Tryz.prog.globalNamed "math/bits.deBruijn64tab" =some 6 by kernel_rfl).symm.trans b)
 obtain rfl:=Option.some.inj ((show(Tryz.prog.globals[6]?).map (·.type)=some 288 by kernel_rfl).symm.trans c);obtain⟨xs,m,_,_,f,_⟩:=DataW.trod_array Tryz.underlying288 e;have hl:a.toList.length=64:=f.trans (by kernel_rfl);have hc:=World.var?_cell b d 0;have:∃v,a[0]? =some v:=⟨_,Array.getElem?_eq_getElem (by simpa using(show 0<a.toList.length by omega))⟩
 obtain⟨v,hv⟩:=this;rw[hv]at hc;have:=X.cell_lt hc;show 7<=_;omega
end Go.Proofs.YtjjcnhgpccancaaGreatDoor

namespace Go.Proofs.YtjjcnhgpccancaaGreatDoor
open Go.ChangeShapes Go.WideShapes Go.ChangeAt Go.RowKit
theorem X.flat_sz {A:Type}{sz:Nat}{vals:A->List Value}(hv:∀x,(vals x).length=sz):∀l:List A,((l.map vals).flatten).length=l.length*sz
 |[]=>by simp
 |x::l=>by rw[List.map_cons,List.flatten_cons,List.length_append,hv,X.flat_sz hv l,List.length_cons,Nat.add_mul];omega
theorem X.flat_ix {A:Type}{sz:Nat}{vals:A->List Value}(hv:∀x,(vals x).length=sz):∀(l:List A) (i j:Nat) (hi:i<l.length),j<sz->((l.map vals).flatten)[i*sz+j]? =(vals l[i])[j]?
 |x::l,0,j,_,hj=>by
  rw[List.map_cons,List.flatten_cons,Nat.zero_mul,Nat.zero_add,List.getElem?_append_left (by rw[hv];exact hj)];rfl
 |x::l,i+1,j,hi,hj=>by
  have e:(i+1)*sz=sz+i*sz:=by rw[Nat.add_mul];omega
  rw[List.map_cons,List.flatten_cons,List.getElem?_append_right (by rw[hv];omega),hv,show(i+1)*sz+j-sz=i*sz+j by omega,X.flat_ix hv l i j (by simpa using hi) hj];rfl
section
variable {H:Type}{enc:TypeId×Value->H}{w:World}{base:Nat}
theorem qhc {A:Type}[Inhabited A](sz:Nat)(h0:0<sz)(vals:A->List Value)(hv:∀x,(vals x).length=sz)(Pq:A->Prop){et t:TypeId}(ce:Tryz.prog.cellsOf et=sz)(ht:Tryz.prog.underlying t=some (.slice et))
  (hs:∀(x:A) (b off:Nat) q,w.cell? ⟨b,off,some q⟩≠(vals x)[0]?) (each:∀n cs x,DataW.trod enc Tryz.prog w base (fun _=>true) true n et cs=some x->cs.length=sz-> ∃y,cs=vals y/\Pq y)
  {n0:Nat} {v:Value} {x:DataW H×List MemPlace} (hf:DataW.trod enc Tryz.prog w base (fun _=>true) true n0 t [v]=some x):
  ∃(a:Option Addr) (n c:Nat) (l:List A),v= .slice a n c/\(n=0\/ ∃b off,a=some ⟨b,off,none⟩)/\X.Rd w a ((l.map vals).flatten)/\l.length=n/\(∀y∈l,Pq y)/\(a=none->c=0)/\n<=c/\c<=maxLen:=by
 rcases Deep.open_slice ht hf with⟨B,_⟩|⟨a,d,k,m,n,D,Pl,C,_,hl,E,hm,_,hx⟩
 ·have o:v= .slice (none) 0 0:=List.head_eq_of_cons_eq B
  exact⟨none,0,0,[],o,.inl rfl,X.Rd.nil _ _,rfl,(fun y hy=>by cases hy),fun _=>rfl,Nat.le_refl _,Nat.zero_le _⟩
 ·have o:v= .slice (some a) d k:=List.head_eq_of_cons_eq C
  have hm':m=k:=by simpa using hm
  rw[ce]at hx;have each':∀i,i<d-> ∃y:A,w.cells? base (a.add (i*sz)) sz=some (vals y)/\Pq y:=fun i hi=>by
   obtain⟨cs,s,F⟩:=hx i (by omega);obtain⟨_,p,_⟩:=World.cells?_some s;obtain⟨y,rfl,hy⟩:=each _ _ _ F p;exact⟨y,s,hy⟩
  obtain⟨f,r⟩:=Deep.choose_lt each';refine⟨some a,d,k,(List.range d).map f,o,?_,⟨fun e=>(by cases e),fun ad e j u hj=>?_⟩,by simp,fun y hy=>?_,(fun e=>by cases e),hl,E⟩
  ·rcases Nat.eq_zero_or_pos d with hz|hz
   ·exact .inl hz
   ·right
    obtain⟨_,_,hc⟩:=World.cells?_some (r 0 hz).1;have g:=hc 0 h0;rw[Deep.add_add,Nat.zero_mul]at g;have h:w.cell? a=(vals (f 0))[0]? :=g;obtain⟨b,off,sp⟩:=a;cases sp with
    |none=>exact⟨b,off,rfl⟩
    |some q=>exact absurd h (hs _ b off q)
  ·obtain rfl:a=ad:=by injection e
   have p:(((List.range d).map f).map vals).flatten.length=d*sz:=by rw[X.flat_sz hv];simp
   have G:j<d*sz:=by
    rw[<-p];exact(List.getElem?_eq_some_iff.1 hj).1
   have hi:j/sz<d:=(Nat.div_lt_iff_lt_mul h0).2 G;have hr:j % sz<sz:=Nat.mod_lt _ h0;have z:j=j/sz*sz+j % sz:=by rw[Nat.mul_comm];exact(Nat.div_add_mod j sz).symm
   have g:=X.flat_ix hv ((List.range d).map f) (j/sz) (j % sz) (by simpa using hi) hr;rw[<-z,hj,List.getElem_map,List.getElem_range]at g;obtain⟨_,_,hc⟩:=World.cells?_some (r (j/sz) hi).1;have h:=hc (j % sz) hr;rw[Deep.add_add,<-z]at h;rw[h,<-g]
  ·obtain⟨i,hi,rfl⟩:=List.mem_map.1 hy
   exact(r i (List.mem_range.1 hi)).2
theorem qkD:∀l:List Int,(l.map fun x=>[Value.int .i64 x]).flatten=l.map (Value.int .i64)
 |[]=>rfl
 |x::l=>by rw[List.map_cons,List.flatten_cons,qkD l];rfl
theorem five_of {cs:List Value}{a b c d e:Value}(hl:cs.length=5)(h0:cs[0]? =some a)(h1:cs[1]? =some b)(h2:cs[2]? =some c)(h3:cs[3]? =some d)(h4:cs[4]? =some e):cs=[a,b,c,d,e]:=by
 match cs,hl with
 |[u0,u1,u2,u3,u4],_=>
  simp only[List.getElem?_cons_zero,List.getElem?_cons_succ,Option.some.injEq]at h0 h1 h2 h3 h4;rw[h0,h1,h2,h3,h4]
theorem agg4 {P:Program}{r:Reach}{b0:Nat}{t:TypeId}{fs:Array Field}{v:Value}(ht:P.underlying t=some (.struct fs))(ct:P.cellsOf t=4)(hval:Value.okWide P w r b0 t v):∃u0 u1 u2 u3,v= .agg #[u0,u1,u2,u3]:=by
 obtain⟨cs,rfl,hs⟩:∃cs,v= .agg cs/\cs.size=4:=by
  unfold Value.okWide at hval;rw[ht]at hval;obtain⟨cs,e,f,_⟩:=hval;exact⟨cs,e,by rw[f,ct]⟩
 match hl:cs.toList,(show cs.toList.length=4 by simpa using hs)with
 |[a,b,c,d],_=>exact⟨a,b,c,d,by rw[<-Array.toArray_toList (xs:=cs),hl]⟩
set_option maxRecDepth 100000 in
theorem ev_cells {n:Nat}{cs:List Value}{x:DataW H×List MemPlace}(h:DataW.trod enc Tryz.prog w base (fun _=>true) true n 66 cs=some x)(hl:cs.length=5):∃y:X.Ev,cs=y.vals/\True:=by
 obtain⟨xs,m,_,_,_,k,hf⟩:=DataW.trod_struct Tryz.underlying66 h;have l:Tryz.prog.cellsOf 9=1:=by kernel_rfl
 have o:Tryz.prog.cellsOf 3=1:=by kernel_rfl
 have e:DataW.trod enc Tryz.prog w base (fun _=>true) true m 3 ((cs.drop 0).take (Tryz.prog.cellsOf 3))=xs[0]? :=hf 0 _ rfl;have f:DataW.trod enc Tryz.prog w base (fun _=>true) true m 3 ((cs.drop 1).take (Tryz.prog.cellsOf 3))=xs[1]? :=hf 1 _ rfl;have g:DataW.trod enc Tryz.prog w base (fun _=>true) true m 9 ((cs.drop 2).take (Tryz.prog.cellsOf 9))=xs[2]? :=hf 2 _ rfl;have i:DataW.trod enc Tryz.prog w base (fun _=>true) true m 3 ((cs.drop 3).take (Tryz.prog.cellsOf 3))=xs[3]? :=hf 3 _ rfl;have j:DataW.trod enc Tryz.prog w base (fun _=>true) true m 3 ((cs.drop 4).take (Tryz.prog.cellsOf 3))=xs[4]? :=hf 4 _ rfl;rw[l]at g;rw[o]at e f i j;have v:xs.length=5:=k;rw[List.getElem?_eq_getElem (by omega)]at e f g i j;obtain⟨a,p,_⟩:=DataW.trod_int Tryz.underlying3 e;obtain⟨b,q,_⟩:=DataW.trod_int Tryz.underlying3 f;obtain⟨s,r,_⟩:=DataW.trod_string Tryz.underlying9 g;obtain⟨c,t,_⟩:=DataW.trod_int Tryz.underlying3 i;obtain⟨d,u,_⟩:=DataW.trod_int Tryz.underlying3 j;exact⟨⟨a,b,s,c,d⟩,five_of hl (qfe p) (qfe q) (qfe r) (qfe t) (qfe u),trivial⟩
set_option maxRecDepth 100000 in
theorem evs_open {n0:Nat}{v:Value}{x:DataW H×List MemPlace}(hf:DataW.trod enc Tryz.prog w base (fun _=>true) true n0 23 [v]=some x):
  ∃(a:Option Addr) (n c:Nat) (l:List X.Ev),v= .slice a n c/\(n=0\/ ∃b off,a=some ⟨b,off,none⟩)/\X.Rd w a (X.evsV l)/\l.length=n/\(a=none->c=0)/\n<=9223372036854775807:=by
 have:Inhabited X.Ev:=⟨X.ev0⟩
 obtain⟨a,n,c,l,e,d,f,g,_,i,j,k⟩:=qhc (w:=w) 5 (by decide) X.Ev.vals (fun _=>rfl) (fun _=>True) (by kernel_rfl) Tryz.underlying23 (fun x b off q h=>by
  have h':w.cell? ⟨b,off,some q⟩=some (.int .i64 x.time):=h;unfold World.cell? at h';split at h'
  ·simp at h'
  ·cases h') (fun _ _ _=>ev_cells) hf
 exact⟨a,n,c,l,e,d,f,g,i,Nat.le_trans j k⟩
set_option maxRecDepth 100000 in
theorem qnZ {n0:Nat}{v:Value}{x:DataW H×List MemPlace}(hf:DataW.trod enc Tryz.prog w base (fun _=>true) true n0 24 [v]=some x):
  ∃(a:Option Addr) (n c:Nat) (l:List Int),v= .slice a n c/\(n=0\/ ∃b off,a=some ⟨b,off,none⟩)/\X.Rd w a (l.map (Value.int .i64))/\l.length=n/\n<=9223372036854775807:=by
 obtain⟨a,n,c,l,e,d,f,g,_,_,i,j⟩:=qhc (w:=w) (A:=Int) 1 (by decide) (fun x=>[.int .i64 x]) (fun _=>rfl) (fun _=>True) (by kernel_rfl) Tryz.underlying24 (fun x b off q h=>by
  have h':w.cell? ⟨b,off,some q⟩=some (.int .i64 x):=h;unfold World.cell? at h';split at h'
  ·simp at h'
  ·cases h') (fun n cs x h hl=>by
   obtain⟨z,k,_⟩:=DataW.trod_int Tryz.underlying3 h;exact⟨z,k,trivial⟩) hf
 refine⟨a,n,c,l,e,d,?_,g,Nat.le_trans i j⟩;have m:(l.map fun x=>[Value.int .i64 x]).flatten=l.map (Value.int .i64):=by
  exact qkD l
 rwa[m]at f
set_option maxRecDepth 100000 in
theorem qqP {r:Reach}{b0:Nat}{v:Value}{d:DataW H}{ps:List MemPlace}(hval:Value.okWide Tryz.prog w r b0 26 v)(hd:DataW.Trod enc Tryz.prog w base (fun _=>true) true 26 v d ps):∃p:X.Plan,v=p.val/\X.PlanIn w p:=by
 obtain⟨u0,u1,u2,u3,rfl⟩:=agg4 Tryz.underlying26 (by kernel_rfl) hval;obtain⟨I,hf⟩:=hd;obtain⟨xs,m,_,_,_,j,hf⟩:=DataW.trod_struct Tryz.underlying26 hf;have k:Tryz.prog.cellsOf 22=2:=by kernel_rfl
 have n:Tryz.prog.cellsOf 23=1:=by kernel_rfl
 have o:Tryz.prog.cellsOf 24=1:=by kernel_rfl
 have ci:Tryz.prog.cellsOf 3=1:=by kernel_rfl
 have J:xs.length=3:=j;have c:DataW.trod enc Tryz.prog w base (fun _=>true) true m 22 (([u0,u1,u2,u3].drop 0).take (Tryz.prog.cellsOf 22))=xs[0]? :=hf 0 _ rfl;have e:DataW.trod enc Tryz.prog w base (fun _=>true) true m 23 (([u0,u1,u2,u3].drop 2).take (Tryz.prog.cellsOf 23))=xs[1]? :=hf 1 _ rfl;have f:DataW.trod enc Tryz.prog w base (fun _=>true) true m 24 (([u0,u1,u2,u3].drop 3).take (Tryz.prog.cellsOf 24))=xs[2]? :=hf 2 _ rfl;rw[k]at c;rw[n]at e;rw[o]at f;rw[List.getElem?_eq_getElem (by omega)]at c e f;obtain⟨ys,K,_,_,_,L,g⟩:=DataW.trod_array Tryz.underlying22 c;have h:=g 0 (by decide);have i:=g 1 (by decide);rw[ci,List.getElem?_eq_getElem (by omega)]at h i;obtain⟨a,q,_⟩:=DataW.trod_int Tryz.underlying3 h;obtain⟨b,s,_⟩:=DataW.trod_int Tryz.underlying3 i;obtain⟨ea,en,ec,l,t,u,x,y,_,z⟩:=evs_open (v:=u2) e;obtain⟨ma,mn,mc,ms,A,B,C,D,E⟩:=qnZ (v:=u3) f;have F:u0= .int .i64 a:=List.head_eq_of_cons_eq q;have G:u1= .int .i64 b:=List.head_eq_of_cons_eq s;exact⟨⟨a,b,ea,en,ec,l,ma,mn,mc,ms⟩,by rw[F,G,t,A];rfl,⟨x,y,u,C,D,B,z,E⟩⟩
end
end Go.Proofs.YtjjcnhgpccancaaGreatDoor
