/- The statement LogKeyless: its row and its card, proved for every input. -/
import Derived.Test.YtjjcnhgpccancaaGreatDoorQB7
import Derived.Test.YtjjcnhgpccancaaGreatDoorTie
import Derived.Test.YtjjcnhgpccancaaGreatDoorCards
import Derived.ProofKit
import Derived.OpenShut
import Derived.LaidMore
import Derived.Lay
import Derived.SevenTiedAt
import Derived.Stop.Joined
import Derived.Below
import Derived.Carry
set_option linter.unusedSimpArgs false
set_option linter.unusedVariables false
set_option maxHeartbeats 4000000
namespace Go.Proofs.YtjjcnhgpccancaaGreatDoor.X
open Go Go.RowKit Go.Proofs.YtjjcnhgpccancaaGreatDoor
def qbE (ks:List Ky)(ix:List Nat):List Ky:=ix.map (gky ks)
def qf6 (kx:Nat->Option Addr×Nat×Nat)(ix:List Nat):Nat->Option Addr×Nat×Nat:=fun i=>kx (ix.getD i 0)
theorem qd6 (ks:List Ky)(ix:List Nat){j:Nat}(h:j<ix.length):gky (qbE ks ix) j=gky ks (ix.getD j 0):=by
 unfold qbE
 rw[show gky (ix.map (gky ks)) j=((ix.map (gky ks))[j]?).getD ⟨0,[]⟩from List.getD_eq_getElem?_getD,List.getElem?_map,List.getD_eq_getElem?_getD,List.getElem?_eq_getElem h];rfl
theorem qny (kx:Nat->Option Addr×Nat×Nat)(ks:List Ky)(ix:List Nat)(k:Nat):qaL (qf6 kx ix) (qbE ks ix) 0++[.int .i64 (((gky ks k).after:Nat):Int),.slice (kx k).1 (kx k).2.1 (kx k).2.2]=qaL (qf6 kx (ix++[k])) (qbE ks (ix++[k])) 0:=by
 have e:qbE ks (ix++[k])=qbE ks ix++[gky ks k]:=by simp[qbE]
 have hl:(qbE ks ix).length=ix.length:=by simp[qbE]
 rw[e,qgU,Nat.zero_add,hl]
 have e2:qf6 kx (ix++[k]) ix.length=kx k:=by simp[qf6]
 rw[e2,qgV (kx:=qf6 kx (ix++[k])) (ky:=qf6 kx ix) (qbE ks ix) 0 fun j hj=>by
  rw[hl]at hj
  rw[Nat.zero_add]
  unfold qf6
  rw[List.getD_eq_getElem?_getD,List.getElem?_append_left hj,<-List.getD_eq_getElem?_getD]]
def Rise (ix:List Nat)(n:Nat):Prop:=(∀j,j+1<ix.length->ix.getD j 0<ix.getD (j+1) 0)/\ ∀j,j<ix.length->ix.getD j 0<n
theorem qf7 {ix:List Nat}{k j:Nat}(h:j<ix.length):(ix++[k]).getD j 0=ix.getD j 0:=by
 rw[List.getD_eq_getElem?_getD,List.getElem?_append_left h,<-List.getD_eq_getElem?_getD]
theorem Rise.nil (n:Nat):Rise [] n:=⟨fun j h=>absurd h (Nat.not_lt_zero _),fun j h=>absurd h (Nat.not_lt_zero _)⟩
theorem Rise.skip {ix:List Nat}{k:Nat}(h:Rise ix k):Rise ix (k+1):=⟨h.1,fun j hj=>by have:=h.2 j hj;omega⟩
theorem Rise.snoc {ix:List Nat}{k:Nat}(h:Rise ix k):Rise (ix++[k]) (k+1):=by
 have hl:(ix++[k]).length=ix.length+1:=by simp
 have hk:(ix++[k]).getD ix.length 0=k:=by simp
 refine⟨fun j hj=>?_,fun j hj=>?_⟩
 ·rw[hl]at hj
  rcases Nat.lt_or_ge (j+1) ix.length with h1|h1
  ·rw[qf7 h1,qf7 (by omega)];exact h.1 j h1
  ·rw[show j+1=ix.length by omega,hk,qf7 (by omega)];exact h.2 j (by omega)
 ·rw[hl]at hj
  rcases Nat.lt_or_ge j ix.length with h1|h1
  ·rw[qf7 h1];have:=h.2 j h1;omega
  ·rw[show j=ix.length by omega,hk];omega
def qhl (r:Rc)(ix:List Nat):Rc:=⟨r.start,r.evs,qbE r.keys ix⟩
theorem qbT (r:Rc)(ix:List Nat):(qhl r ix).keys.length=ix.length:=by simp[qhl,qbE]
theorem Rise.len {n:Nat}:∀{ix:List Nat},Rise ix n->ix.length<=n:=fun{ix} h=>by
 have key:∀j,j<ix.length->j<=ix.getD j 0:=fun j=>by
  induction j with
  |zero=>exact fun _=>Nat.zero_le _
  |succ j ih=>exact fun hj=>by have:=ih (by omega);have:=h.1 j hj;omega
 rcases Nat.eq_zero_or_pos ix.length with h0|h0
 ·omega
 ·have:=key (ix.length-1) (by omega)
  have:=h.2 (ix.length-1) (by omega)
  omega
theorem pickR_ok {T0:TS}{r:Rc}(h:RcOk T0 r){ix:List Nat}(hr:Rise ix r.keys.length):RcOk T0 (qhl r ix):=by
 refine⟨h.evb,h.tm,fun j hj=>?_,fun j hj=>?_⟩
 ·rw[qbT]at hj
  show(gky (qbE r.keys ix) j).after<=r.evs.length/\(gky (qbE r.keys ix) j).state=qN (qa3 T0 r.evs (gky (qbE r.keys ix) j).after)
  rw[qd6 _ _ hj]
  exact h.ks _ (hr.2 j hj)
 ·rw[qbT]at hj
  show(gky (qbE r.keys ix) j).after<(gky (qbE r.keys ix) (j+1)).after
  rw[qd6 _ _ hj,qd6 _ _ (by omega)]
  have key:∀a b,a<b->b<r.keys.length->(gky r.keys a).after<(gky r.keys b).after:=fun a b hab=>by
   induction b with
   |zero=>omega
   |succ b ih=>
    intro hb
    have h1:=h.up b hb
    rcases Nat.lt_or_ge a b with h2|h2
    ·have:=ih h2 (by omega);omega
    ·obtain rfl:a=b:=by omega
     exact h1
  exact key _ _ (hr.1 j hj) (hr.2 (j+1) hj)
theorem pickR_b {r:Rc}{ix:List Nat}(hs:qaA r.start/\r.start.length<=300000)(hk:∀j,j<r.keys.length->qaA (gky r.keys j).state/\(gky r.keys j).state.length<=300000/\(gky r.keys j).after<=100000000)(he:EvsOk r.evs)(hr:Rise ix r.keys.length)(h1:r.keys.length<=300)(h2:r.evs.length<=3000):RcB (qhl r ix):=by
 have:=hr.len
 refine rcb_of hs (fun j hj=>?_) he (by rw[qbT];omega) h2
 rw[qbT]at hj
 show qaA (gky (qbE r.keys ix) j).state/\(gky (qbE r.keys ix) j).state.length<=300000/\(gky (qbE r.keys ix) j).after<=100000000
 rw[qd6 _ _ hj]
 exact hk _ (hr.2 j hj)
theorem recl_of {r:Rc}(hW:RcB r)(hs:r.start.length<=300000)(hk:∀j,j<r.keys.length->(gky r.keys j).state.length<=300000)(he:EvsOk r.evs)(h1:r.keys.length<=10)(h2:r.evs.length<=80)(whole:Bool):(qc8 r whole).length<=4000000:=by
 obtain⟨g1,g2⟩:=qf1 hs hk he.evb (r.evs.length+1)
 have h3:(qI r).out.length<=3500000:=by
  have e:(qI r).out=(qC r (r.evs.length+1)).out:=rfl
  rw[e];omega
 have h4:=qgX r (((qI r).out.length:Nat):Int) (qI r).pos
 have h5:=qgc (r:=r)
 unfold qc8
 split
 ·rw[List.length_append];omega
 ·omega
theorem BuiltF.kb {p:Plan}{r:Rc}(h:BuiltF p r)(hp:p.l.length=p.en)(hf:p.en<=40):∀j,j<r.keys.length->qaA (gky r.keys j).state/\(gky r.keys j).state.length<=300000/\(gky r.keys j).after<=100000000:=fun j hj=>by
 obtain⟨h1,h2⟩:=Plan.tok (p:=p) (by omega)
 rw[h.kl]at hj
 rw[h.kg j hj]
 have hd:=(p.ok.fold h1 (8*(j+1)) (by omega)).dec
 exact⟨qd1 hd,qcg hd,by dsimp only;omega⟩
theorem BuiltF.eo {p:Plan}{r:Rc}(h:BuiltF p r)(hp:p.l.length=p.en)(hf:p.en<=40):EvsOk r.evs:=h.ev▸(Plan.tok (p:=p) (by omega)).1
theorem BuiltF.pick {p:Plan}{r:Rc}(h:BuiltF p r)(hp:p.l.length=p.en)(hf:p.en<=40){ix:List Nat}(hr:Rise ix r.keys.length):RcOk p.T0 (qhl r ix)/\RcB (qhl r ix)/\ ∀whole,(qc8 (qhl r ix) whole).length<=4000000:=by
 have hs:qaA r.start/\r.start.length<=300000:=by rw[h.st];exact⟨qd1 p.ok.dec,qcg p.ok.dec⟩
 have hk:=h.kb hp hf
 have he:=h.eo hp hf
 have hkl:=h.kl
 have hel:=h.el
 have hW:=pickR_b hs hk he hr (by omega) (by omega)
 refine⟨pickR_ok h.ok hr,hW,recl_of hW hs.2 (fun j hj=>?_) he (by rw[qbT];have:=hr.len;omega) (by show r.evs.length<=80;omega)⟩
 rw[qbT]at hj
 show(gky (qbE r.keys ix) j).state.length<=300000
 rw[qd6 _ _ hj]
 exact(hk _ (hr.2 j hj)).2.1
theorem RcRd.pick {w:World}{b bx:Nat}{sa:Option Addr}{sn sc:Nat}{eo:Option Nat}{ec:Nat}{ko:Option Nat}{kc:Nat}{kx:Nat->Option Addr×Nat×Nat}{r:Rc}(h:RcRd w b sa sn sc eo ec ko kc kx r){ix:List Nat}(hr:Rise ix r.keys.length){o:Option Nat}{n c:Nat}{T:TypeId}
  (hb:Blk w bx [.slice sa sn sc,.slice (eo.map at0) r.evs.length ec,.slice (o.map at0) n c] T) (hO:Own w qgS 2 o n c (qaL (qf6 kx ix) (qbE r.keys ix) 0)) (hn:ix.length=n):RcRd w bx sa sn sc eo ec o c (qf6 kx ix) (qhl r ix):=by
 have hl:=qbT r ix
 refine⟨hb.c 0 rfl,hb.c 1 rfl,by rw[hl,hn];exact hb.c 2 rfl,h.st,h.sl,h.sz,h.ev,hO.rd,⟨h.en.1,by rw[hl];have:=hr.len;have:=h.en.2;omega⟩,fun i hi=>?_⟩
 rw[hl]at hi
 show Rd w (qf6 kx ix i).1 (u8s (gky (qbE r.keys ix) i).state)/\_
 rw[qd6 _ _ hi]
 have:=h.kr _ (hr.2 i hi)
 exact⟨this.1,by show(gky (qbE r.keys ix) i).state.length=_/\_;rw[qd6 _ _ hi];exact this.2⟩
theorem RcRd.pickq {w:World}{b bx:Nat}{sa:Option Addr}{sn sc:Nat}{eo:Option Nat}{ec:Nat}{ko:Option Nat}{kc:Nat}{kx:Nat->Option Addr×Nat×Nat}{r q:Rc}{ix:List Nat}(hq:qhl r ix=q)(h:RcRd w b sa sn sc eo ec ko kc kx r)(hr:Rise ix r.keys.length){o:Option Nat}{n c:Nat}{T:TypeId}
  (hb:Blk w bx [.slice sa sn sc,.slice (eo.map at0) r.evs.length ec,.slice (o.map at0) n c] T) (hO:Own w qgS 2 o n c (qaL (qf6 kx ix) (qbE r.keys ix) 0)) (hn:ix.length=n):RcRd w bx sa sn sc eo ec o c (qf6 kx ix) q:=hq▸h.pick hr hb hO hn
end Go.Proofs.YtjjcnhgpccancaaGreatDoor.X
namespace Go.Proofs.YtjjcnhgpccancaaGreatDoor.X
open Go Go.RowKit Go.Proofs.YtjjcnhgpccancaaGreatDoor
theorem keyless13_any (p:Plan)(drop:Int)(w:World)(hT:LT w)(h7:gTop<=w.heap.size)(hP:PlanIn w p):Calls Tryz.prog 6 [p.val,iX drop].toArray w fun e w'=>e= .returned (.bool true)/\Ch (fun _=>False) w w':=by
 have h:=Sep.nil w;refine yA Tryz.func6 rfl<|ysr<|yo (zN [iX p.p1,iX p.p2,.slice p.ea p.en p.ec,.slice p.ma p.mn p.mc] 26 h fun u a0 h=>?_);refine yz 2<|ys<|ysr<|yo (yQ (h.look (qh6 _ (qat h.ch hT (fun _ h=>h.elim)) (Nat.le_trans h7 h.ch.size))) fun u h=>?_);refine yz 2<|ycf<|yk<|ys<|ysr<|yp 1 [] (.a (h.cs 0 0 4) .z)<|yo (yC (qj2 p _) ?_);rintro _ u ⟨a1,rfl,a2,a3⟩;refine⟨_,rfl,?_⟩;have h:=h.same a3;refine yz 3<|yc (rN (rY a1)) (fun K=>?_) fun K=>?_
 ·have aH:=K;refine yx 1<|q9 (rS (yR1 (.bool true) ?_));exact⟨rfl,h.ch⟩
 have a4:=K;obtain⟨L,aI⟩:=a2.1 a4;obtain⟨aJ,aK⟩:=Plan.tok (p:=p) (by have:=hP.el;omega);have a5:=hP.el;have aL:p.t.length=p.en:=by omega
 refine yk<|ysr<|yp 1 [] (.a (h.cs 0 0 4) .z)<|yo (yC (qfx p _ (qat h.ch hT (fun _ h=>h.elim)) (Nat.le_trans h7 h.ch.size) (hP.ch h.ch) L) ?_);rintro _ u ⟨D,x1,E,rfl,a7⟩;refine⟨_,rfl,?_⟩;have h:=h.join a7;obtain⟨d,R⟩:∃r,r=qdU p.T0 p.t p.en:=⟨_,rfl⟩
 rw[<-R]at h;have J:BuiltF p d:=R▸qli hP.el L;have aM:=J.el;have aN:=J.kl;obtain⟨s,v,y,g,j,B,A,f,C⟩:=x1;refine yz 3<|ys<|yx 2<|ycf<|yk<|ys<|zD [9] h fun u h=>yd (uL 0 9) [] (.l (h.rcx 1 (b:=D) (r:=d) ⟨s,v,y,g,j,B,A,f,C⟩ E qw).c0 (.l (h.rcx 1 (b:=D) (r:=d) ⟨s,v,y,g,j,B,A,f,C⟩ E qw).c1 .z))<|yK 9 (zN [.slice s v y,.slice (g.map at0) d.evs.length j,nX] 34 h fun u H h=>?_);refine q8<|yd [10] [] .z<|yDe (nS ?_);refine ys<|ysr<|yp 6 [] (.l (h.rcx 1 (b:=D) (r:=d) ⟨s,v,y,g,j,B,A,f,C⟩ E qw).c2 .z)<|ye<|qa ?_;have h:=h.ord [0,1,2,3,4,5,6];refine qT [1,6,35,36,37] (f':=[(1,iX drop),(6,pX H),(35,.slice (B.map at0) d.keys.length A),(36,iX ((d.keys.length:Nat):Int)),(37,iX 0)])<|qx (σ:=Nat×List Nat×Nat×Option Nat×Nat) (fun⟨k,ix,n,o,c⟩=>[(1,iX drop),(6,pX H),(35,.slice (B.map at0) d.keys.length A),(36,iX ((d.keys.length:Nat):Int)),(37,iX ((k:Nat):Int))]) (fun⟨k,ix,n,o,c⟩ u=>k<=d.keys.length/\Rise ix k/\ix.length=n/\Sep w (fun _=>False) u [qbr a0 [iX p.p1,iX p.p2,.slice p.ea p.en p.ec,.slice p.ma p.mn p.mc] 26,qbr D (recC ⟨s,v,y,g,j,B,A,f,C⟩ d E) qw,qaz tEv 5 g d.evs.length j (evsV d.evs),qaz qgS 2 B d.keys.length A (qaL f d.keys 0),roA (roL ⟨s,v,y,g,j,B,A,f,C⟩ d),qdT (ScOk ⟨s,v,y,g,j,B,A,f,C⟩ d),qbr H [.slice s v y,.slice (g.map at0) d.evs.length j,.slice (o.map at0) n c] 34,qaz qgS 2 o n c (qaL (qf6 f ix) (qbE d.keys ix) 0)]) (fun⟨k,ix,n,o,c⟩=>d.keys.length-k) (0,[],0,none,0) rfl ?_ ?_
 ·exact⟨Nat.zero_le _,Rise.nil _,rfl,(h.own0 qgS 2).eqv⟩
 intro q u a8 aO S;obtain⟨k,ix,n,o,c⟩:=q;obtain⟨hk,F,I,h⟩:=a8;refine yx 1<|ys<|yc (rL ((k:Nat):Int) ((d.keys.length:Nat):Int)) (fun M=>?_) fun M=>?_
 ·have aP:=M;obtain⟨T,rfl⟩:=(h.rcx 1 (b:=D) (r:=d) ⟨s,v,y,g,j,B,A,f,C⟩ E qw).kb (by omega);have aQ:=F.len;have aR:=qmo (x:=((k:Nat):Int)) (m:=31) (k:=31) (by decide) (by decide);refine yk<|ys<|qa<|ysr<|yp 3 [] (.i ((k:Nat):Int) (d.keys.length) (.m ((h.rcx 1 (b:=D) (r:=d) ⟨s,v,y,g,j,some T,A,f,C⟩ E qw).kyx (x:=((k:Nat):Int)) (i:=k) (by omega) (by omega)).1 (.m ((h.rcx 1 (b:=D) (r:=d) ⟨s,v,y,g,j,some T,A,f,C⟩ E qw).kyx (x:=((k:Nat):Int)) (i:=k) (by omega) (by omega)).2 (.e .z))))<|yo (zN [iX 0,nX] 51 h fun u b24 h=>?_);refine yq 5<|yo (zs h 8 fun u h=>?_);refine ye<|ysr<|yp 6 [] (.p (q:=0<=((qe .and .i64 ((k:Nat):Int) 31):Int)) (by omega) .z)<|ye<|yc (rE (qe .and .i64 (Int.fdiv drop (2^min ((qe .and .i64 ((k:Nat):Int) 31):Int).toNat (IntKind.bits .i64))) 1) 0) (fun N=>?_) fun N=>?_
  ·have aS:=N;refine zDC [7,10] [0,1,2,3,4,5,6,7,8] h fun u h=>ydF (uL 0 6) [] h.on (fun u h=>(.l (h.c 6 2) (.a (h.cs 8 0 2) .z)))<|yH 6 (zB [iX (((gky d.keys k).after:Nat):Int),.slice (f k).1 (f k).2.1 (f k).2.2] 51 1 h fun u aT h=>?_);refine zHa h ?_;have h:=h.nrm 8 [iX (((gky d.keys k).after:Nat):Int),.slice (f k).1 (f k).2.1 (f k).2.2];refine yK 7 (zA 7 32 1 1 (n+1) (qaL (qf6 f (ix++[k])) (qbE d.keys (ix++[k])) 0) h (Rd.all (h.b 9)) rfl (hz:=qny f d.keys ix k) fun u U V h aU=>?_);refine q8<|yd [8,9] [] .z<|yK 10 (zs h 6 fun u h=>?_);refine q8<|yDe (nB (nS ?_));refine q7<|yp 2 [] (.q6 (((k:Nat):Int)+1) .z) ?_;have h:=h.nrm 6 [.slice s v y,.slice (g.map at0) d.evs.length j,.slice (U.map at0) (n+1) V];refine yE (fun a ha=>S (k+1,ix++[k],n+1,U,V) _ ⟨by omega,F.snoc,by simp[I],h.take 8⟩ (by show d.keys.length-(k+1)<d.keys.length-k;omega) a (ha.kp [1,6,35,36,37]))
  have aV:=N;refine qk (nB (nS ?_));refine q7<|yp 2 [] (.q6 (((k:Nat):Int)+1) .z) ?_;have h:=h.nrm 8 [iX (((gky d.keys k).after:Nat):Int),.slice (f k).1 (f k).2.1 (f k).2.2];refine yE (fun a ha=>S (k+1,ix,n,o,c) _ ⟨by omega,F.skip,I,h.take 8⟩ (by show d.keys.length-(k+1)<d.keys.length-k;omega) a (ha.kp [1,6,35,36,37]))
 have aW:=M;obtain rfl:k=d.keys.length:=by omega
 obtain⟨q,hq⟩:∃q,qhl d ix=q:=⟨_,rfl⟩
 obtain⟨O,G,P⟩:=J.pick a5 L F;rw[hq]at O G P;have W:q.start=qN p.T0:=hq▸J.st;have aX:q.keys.length<=100000:=by rw[<-hq,qbT];have:=F.len;omega
 refine ql (eS (qd (qb (nS ?_))));refine ysr<|yq 1<|yo (yC (qcv H _ (RcRd.pickq hq (h.rcx 1 (b:=D) (r:=d) ⟨s,v,y,g,j,B,A,f,C⟩ E qw) F (h.b 6) (h.own 7) I) G) ?_);rintro _ u ⟨aY,a9,aZ,rfl,aa⟩;refine⟨_,rfl,?_⟩;have h:=h.join aa;have b0:(qc8 q true).length=a9:=by have:=h.len1 8;rwa[List.length_map]at this
 refine yo (yC (h.dec13 (whole:=true) hT h7 8 O G W p.ok (by omega) (by have:=P true;omega)) ?_);rintro _ u ⟨X,x2,ac,rfl,h⟩;refine⟨_,rfl,?_⟩;obtain⟨ad,ae,af,ag,ah,ai,aj,ak,t2⟩:=x2;refine yz 8<|ysr<|yq 1<|yo (yC (qd4 H _ (RcRd.pickq hq (h.rcx 1 (b:=D) (r:=d) ⟨s,v,y,g,j,B,A,f,C⟩ E qw) F (h.b 6) (h.own 7) I) G) ?_);rintro _ u ⟨b1,am,b2,rfl,an⟩;refine⟨_,rfl,?_⟩;have h:=h.join an;have b3:(qc8 q false).length=am:=by have:=h.len1 14;rwa[List.length_map]at this
 refine yo (yC (h.dec13 (whole:=false) hT h7 14 O G W p.ok (by omega) (by have:=P false;omega)) ?_);rintro _ u ⟨Y,x3,ap,rfl,h⟩;refine⟨_,rfl,?_⟩;obtain⟨aq,ar,au,av,aw,ax,ay,az,t3⟩:=x3;refine yz 8<|ysr<|yq 9<|yo (yC (qdQ X H _ (h.rcx 9 (b:=X) (r:=q) ⟨ad,ae,af,ag,ah,ai,aj,ak,t2⟩ ac qfQ) (RcRd.pickq hq (h.rcx 1 (b:=D) (r:=d) ⟨s,v,y,g,j,B,A,f,C⟩ E qw) F (h.b 6) (h.own 7) I) G G) ?_);rintro _ u ⟨aB,rfl,aC,aD⟩;refine⟨_,rfl,?_⟩;have h:=h.same aD;refine yq 12<|yw [82] (rY aB) (fun Q=>?_) fun Q=>?_
 ·have b4:=Q;refine yq 14<|yo (yC (qdQ Y H _ (h.rcx 15 (b:=Y) (r:=q) ⟨aq,ar,au,av,aw,ax,ay,az,t3⟩ ap qfQ) (RcRd.pickq hq (h.rcx 1 (b:=D) (r:=d) ⟨s,v,y,g,j,B,A,f,C⟩ E qw) F (h.b 6) (h.own 7) I) G G) ?_);rintro _ u ⟨Z,rfl,aE,aF⟩;refine⟨_,rfl,?_⟩;have h:=h.same aF;refine yz 17<|q9 (yR1 (.bool Z) ?_);exact⟨by rw[show Z=true from aE.2 rfl],h.ch⟩
 have aG:=Q;exact absurd (aC.2 rfl) (Bool.eq_false_iff.1 aG)
end Go.Proofs.YtjjcnhgpccancaaGreatDoor.X
namespace Go.Proofs.YtjjcnhgpccancaaGreatDoor
open Go.ChangeShapes Go.WideShapes Go.ChangeAt Go.RowKit
set_option maxRecDepth 100000 in
theorem logKeyless_lifted (os:Os)(started:os.Started)(H:Type)(enc:TypeId×Value->H):
    ReturnsInHanded {} Tryz.checked os 6 .any (fun w args=>(Rows.logKeylessSpec.pre enc Tryz.prog Tryz.f6 [] false w args/\laidMetH Tryz.prog Rows.logKeylessRow.laid w)/\sizedMet enc Tryz.prog Tryz.f6 (OpenSpec.ofChange Rows.logKeylessSpec) false w args)
      (Rows.logKeylessSpec.post enc Tryz.prog Tryz.f6 false true false false):=by
  refine returnsInHanded_of_change_and (C:=Tryz.checked) (X:=fun w _=>laidMetH Tryz.prog Rows.logKeylessRow.laid w) (fun _ _ _ hh h=>h.of_heap hh) qec started (by kernel_rfl) Tryz.func6
    (ChangeSpec.witness_shaped (enc:=enc) (C:=Tryz.checked) (os:=os) (X:=fun w _=>laidMetH Tryz.prog Rows.logKeylessRow.laid w) false (World.laidAll Tryz.prog os qky) #[.agg #[.int .i64 0,.int .i64 0,.slice none 0 0,.slice none 0 0],.int .i64 0] 8 (World.laidAll_os _ _ _) (qfy os) (by kernel_rfl) (by kernel_rfl) (by kernel_rfl) (qlk os _)) ?_
  intro W base args ds gs before hval0 hW _ _ hL _
  have hval:∀(j:Nat) t v,Tryz.f6.params[j]? =some t->args[j]? =some v->Value.okWide Tryz.prog W .any base t v:=hval0
  have hW':=hW
  obtain⟨p,q,hA0,hV,rfl,hfz,hnd⟩:=hW
  have hA:DataW.TrodAll enc Tryz.prog W 0 (fun _=>true) true Tryz.f6.params.toList args.toList ds p:=hA0
  rw[Tryz.params6]at hA hval
  obtain⟨v0,vs0,d0,ds0,p0,q0,hargs,rfl,rfl,h0,r0⟩:=trodAll_cons hA
  obtain⟨v1,vs1,d1,ds1,p1,q1,rfl,rfl,rfl,h1,r1⟩:=trodAll_cons r0
  obtain⟨rfl,rfl,rfl⟩:=trodAll_nil r1
  obtain rfl:args= #[v0,v1]:=by cases args;simp_all
  obtain⟨rfl,rfl⟩:=trodVars_none hV
  obtain⟨a0,rfl,e0⟩:=qh8 (hval 0 26 v0 rfl rfl) h0
  obtain⟨a1,rfl,rfl,rfl,w1⟩:=open_int Tryz.underlying3 (hval 1 3 v1 rfl rfl) h1
  clear hA0 hval0
  have hlt:=DataW.Whole.lt hW'
  refine(X.keyless13_any a0 a1 W (qfz hL) (qee hL) e0).mono fun e W' ⟨he,hc⟩=>?_
  have bel:=qed hc
  subst he
  exact⟨_,rfl,_,_,_,[],_,[],hW',trodAll_mk1 (shut_bool Tryz.underlying4 _),(trodAll_cons_mk (Below.trod (by kernel_rfl) (by kernel_rfl) (of_decide_eq_true (by kernel_rfl)) h0 bel (fun x hx=>hlt x (by simp[hx]))) (trodAll_cons_mk (shut_int Tryz.underlying3 w1) trodAll_mk0)),rfl,bel.frame _,fun h=>by cases h⟩
theorem logKeyless_holds:Rows.LogKeylessSaid:=
  OpenClaim.holds_of_wide 6 Tryz.f6 rfl rfl rfl rfl rfl rfl rfl ⟨rfl,rfl,rfl,rfl,rfl⟩ rfl rfl rfl rfl rfl (by kernel_rfl) Tryz.func6 (by kernel_rfl)
    (of_decide_eq_true (by kernel_rfl)) (by unfold Func.isWrapper;first|(rw[if_pos (by decide+kernel)];kernel_rfl)|(rw[if_neg (by decide+kernel)];exact⟨rfl,rfl⟩))
    (fun os started H enc _=>logKeyless_lifted os started H enc)
theorem logKeyless_card_holds:Rows.LogKeylessCardSaid:=
  Claim7.holds_tied_plain_at .later [] [.data,.data,.data,.data,.data,.data,.pinned] true (true,"2b54949b506e2926f88e7eea2b840edd9a6a7340db8b0d167da3910ee1a9c266") false
    logKeyless_holds (fun _ h=>by cases h) (by kernel_rfl) (fun _ h=>by cases h) logKeyless_row_tie rfl ⟨rfl,rfl⟩ (by kernel_rfl) rfl
    (fun f fn hf hfn=>by
      obtain rfl:f=6:=Option.some.inj ((show Tryz.prog.funcNamed "flipbook/flipbooklaw13.LogKeyless" =some 6 by kernel_rfl).symm.trans hf)|>.symm
      obtain rfl:fn=Tryz.f6:=(Option.some.inj (Tryz.func6.symm.trans hfn)).symm
      exact⟨by kernel_rfl,fun j t ht=>by
        rw[Tryz.params6]at ht
        have hm:t∈[26,3]:=by simpa using Array.mem_of_getElem? ht
        have hall:([26,3].all fun u=> !Tryz.prog.wantsStandIn u)=true:=by kernel_rfl
        exact(show Tryz.prog.wantsStandIn t=false by simpa using List.all_eq_true.1 hall t hm)⟩)
    (by kernel_rfl)
#print axioms logKeyless_card_holds
end Go.Proofs.YtjjcnhgpccancaaGreatDoor
