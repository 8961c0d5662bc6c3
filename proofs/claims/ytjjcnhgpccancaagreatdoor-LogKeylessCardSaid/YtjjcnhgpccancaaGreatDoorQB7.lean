/- What the proofs of LogKeys, LogBack, LogKeyless need, part 7: the walks of the program's functions and the plain laws about them. -/
import Derived.Test.YtjjcnhgpccancaaGreatDoorQB6
import Derived.Test.YtjjcnhgpccancaaGreatDoorRows
import Derived.ProofKit
import Derived.OpenShut
import Derived.ChangeArms
import Derived.LaidMore
import Derived.Lay
import Derived.Stop.Joined
import Derived.Below
import Derived.SevenTiedAt
import Derived.Deep.Slices
import Derived.Carry
set_option linter.unusedSimpArgs false
set_option linter.unusedVariables false
set_option maxHeartbeats 4000000
namespace Go.Proofs.YtjjcnhgpccancaaGreatDoor.X
open Go Go.RowKit Go.Proofs.YtjjcnhgpccancaaGreatDoor
theorem qj2 (p:Plan)(w:World):Calls Tryz.prog 15 [p.val].toArray w fun e w'=> ∃r:Bool,e= .returned (.bool r)/\(r=true↔p.en<=40/\p.mn<=60)/\Ch (fun _=>False) w w':=by
 have h:=Sep.nil w;refine yA Tryz.func15 rfl<|ysr<|yo (zN [iX p.p1,iX p.p2,.slice p.ea p.en p.ec,.slice p.ma p.mn p.mc] 26 h fun u b h=>?_);refine yz 2<|ysr<|yp 5 [] (.l (h.c 0 2) .z)<|yw [7] (rM ((p.en:Nat):Int) 40) (fun a=>?_) fun a=>?_
 ·have d:=a;refine yp 11 [] (.l (h.c 0 3) .z)<|ye<|q9 (yR1 (.bool (decide (((p.mn:Nat):Int)<=60))) ?_);exact⟨_,rfl,by first|(simp only[decide_eq_true_eq];omega)|(simp only[Bool.false_eq_true,false_iff,true_iff];omega),h.ch⟩
 have f:=a;refine yz 11<|q9 (yR1 (.bool false) ?_);exact⟨_,rfl,by first|(simp only[decide_eq_true_eq];omega)|(simp only[Bool.false_eq_true,false_iff,true_iff];omega),h.ch⟩
theorem qh4 (p:Plan)(w:World)(hP:PlanIn w p)(hfew:p.en<=40):Calls Tryz.prog 18 [p.val].toArray w fun e w'=> ∃o c,e= .returned (.slice (o.map at0) p.en c)/\Sep w (fun _=>False) w' [qaz tEv 5 o p.en c (evsV p.t)]:=by
 have h:=Sep.nil w;refine yA Tryz.func18 rfl<|ysr<|yo (zN [iX p.p1,iX p.p2,.slice p.ea p.en p.ec,.slice p.ma p.mn p.mc] 26 h fun u f h=>?_);refine yz 2<|ysr<|yp 2 [] (.l (h.c 0 2) .z)<|yo (yC (tame_any p.ea p.en p.ec p.l _ (hP.ch h.ch).er hP.el hP.ez (by omega)) ?_);rintro _ u ⟨a,b,rfl,d⟩;refine⟨_,rfl,?_⟩;have h:=h.join d;refine yz 4<|q9 (yR1 (.slice (a.map at0) p.en b) ?_);exact⟨_,_,rfl,(h.ord [1]).eqv⟩
theorem qfx (p:Plan)(w:World)(hT:LT w)(h7:gTop<=w.heap.size)(hP:PlanIn w p)(hfew:p.en<=40):Calls Tryz.prog 16 [p.val].toArray w fun e w'=> ∃b x tl,e= .returned (pX b)/\Sep w (fun _=>False) w' (recL b (qdU p.T0 p.t p.en) x tl qw):=by
 have R:=hP.el;obtain⟨n,S⟩:=Plan.tok (p:=p) (by omega);have h:=Sep.nil w;refine yA Tryz.func16 rfl<|ysr<|yo (zN [iX p.p1,iX p.p2,.slice p.ea p.en p.ec,.slice p.ma p.mn p.mc] 26 h fun u v h=>?_);refine yz 2<|ys<|zDC [7,8] [0] h fun u h=>ydF (uL 1 6) [] h.on (fun u h=>(.i 0 (2) (.l (h.c 0 0) (.i 1 (2) (.l (h.c 0 1) .z)))))<|yH 0 (yC (qm9 1073741824 _) ?_);rintro _ u ⟨f,rfl,H⟩;refine⟨_,rfl,?_⟩;have h:=h.addN H;rw[show max (1073741824:Int) 0=1073741824 by decide]at h;refine zHa h<|yK 7 (yC (qeK (p.p1) (p.p2) _ (qat h.ch hT (fun _ h=>h.elim)) (Nat.le_trans h7 h.ch.size)) ?_);rintro _ u ⟨I,rfl,J,K⟩;refine⟨_,rfl,?_⟩;have h:=h.newTm (U:=p.T0) J K;refine q8 ?_;obtain⟨y,o,A,B⟩:=h.ex;have T:=qaq 83 (qN p.T0);have V:=qcg p.ok.dec;refine yK 8 (yC (qi3 f I p.T0 1073741824 0 (y 1) (y 2) _ (o 1 _ rfl) (h.gz (gz0 h7) (B 1)) (o 2 _ rfl) (A 2 1 (by decide)) p.ok (by omega) (by decide)) ?_);rintro _ u ⟨d,rfl,M⟩;refine⟨_,rfl,?_⟩;have h:=h.into 1 o A B (by simp only[List.length_append,List.length_cons,List.length_nil];omega) M;refine q8<|yd (uL 9 5) [] .z<|yDe (nS ?_);refine ys<|yx 6<|ycf<|yk<|ys<|ysr<|yp 1 [] (.a (h.cs 0 0 4) .z)<|yo (yC (qh4 p _ (hP.ch h.ch) hfew) ?_);rintro _ u ⟨g,j,rfl,N⟩;refine⟨_,rfl,?_⟩;have h:=h.join N;refine yz 4<|qa ?_;have h:=Sep.pack (L:=fun _:Unit=>[qbf f ⟨some ⟨qa9 83 (qN p.T0),0⟩,1073741824,false,0,false⟩,qeb d f ⟨qdU p.T0 p.t 0,p.T0⟩]) () ((h.ord [0,4,1,3]).eqv (m:=[qbr v [iX p.p1,iX p.p2,.slice p.ea p.en p.ec,.slice p.ma p.mn p.mc] 26,qaz tEv 5 g p.en j (evsV p.t)]++[_,_]))
 refine qT [3,26,27,28] (f':=[(3,pX d),(26,.slice (g.map at0) p.en j),(27,iX ((p.en:Nat):Int)),(28,iX 0)])<|qx (σ:=Nat×List Int) (fun⟨k,da⟩=>[(3,pX d),(26,.slice (g.map at0) p.en j),(27,iX ((p.en:Nat):Int)),(28,iX ((k:Nat):Int))]) (fun⟨k,da⟩ u=>k<=p.en/\da.length<=300015+301000*k/\Sep w (fun _=>False) u [qbr v [iX p.p1,iX p.p2,.slice p.ea p.en p.ec,.slice p.ma p.mn p.mc] 26,qaz tEv 5 g p.en j (evsV p.t),logA d f ⟨da,0⟩ 1073741824 0 ⟨qdU p.T0 p.t k,qa3 p.T0 p.t k⟩]) (fun⟨k,da⟩=>p.en-k) (0,qa9 83 (qN p.T0)) rfl ?_ ?_
 ·exact⟨Nat.zero_le _,by omega,h.take 3⟩
 intro q u O W P;obtain⟨k,da⟩:=q;obtain⟨hk,X,h⟩:=O;refine yx 1<|ys<|yc (rL ((k:Nat):Int) ((p.en:Nat):Int)) (fun s=>?_) fun s=>?_
 ·have Y:=s;obtain⟨Z,rfl⟩:=h.isO 1;refine yk<|ys<|qa<|ysr<|yp 2 [] (.i ((k:Nat):Int) (p.en) (.m (qak (h.own 1).rd (((k:Nat):Int)) k 0 _) (.m (qak (h.own 1).rd (((k:Nat):Int)) k 1 _) (.m (qak (h.own 1).rd (((k:Nat):Int)) k 2 _) (.m (qak (h.own 1).rd (((k:Nat):Int)) k 3 _) (.m (qak (h.own 1).rd (((k:Nat):Int)) k 4 _) (.e .z)))))))<|yo (zN [iX 0,iX 0,oX,iX 0,iX 0] 66 h fun u a0 h=>?_);refine yo (zs h 3 fun u h=>?_);refine ye<|ysr<|yp 2 [] (.a (h.cs 3 0 5) .z) ?_;have C:=p.ok.fold n k (by omega);have D:=n.evb k (by omega);have E:=n.tm k (by omega);have a1:=addB_len (r:=qdU p.T0 p.t k) C D;have G:qae (qdU p.T0 p.t k).evs=qZ p.t k:=qhZ (by omega);have a2:(qdU p.T0 p.t k).evs.length=k:=by show(p.t.take k).length=k;rw[List.length_take];omega
  have a3:(qdU p.T0 p.t k).keys.length=k/8:=qbS _ _ _;refine yo (yQ (h.stepA (gz0 h7) 2 (fun F hA Q=>qq0 d f (qdU p.T0 p.t k) (qa3 p.T0 p.t k) da 0 1073741824 0 (ge p.t k) F _ hA Q (qat h.ch hT (fun _ h=>h.elim)) C D (by rw[G];exact E.1) (by rw[G];exact E.2) (by omega) (by omega) (by omega) (by decide))) fun u h=>?_);refine yz 4<|ycf<|qk (nB (nS ?_));refine q7<|yp 2 [] (.q6 (((k:Nat):Int)+1) .z) ?_;have h:=h.nrm 3 [iX (ge p.t k).time,iX (ge p.t k).kind,.string (ge p.t k).data,iX (ge p.t k).w,iX (ge p.t k).h];rw[qq2 p.T0 p.t (by omega)]at h;refine yE (fun a ha=>P (k+1,da++addB ⟨qdU p.T0 p.t k,qa3 p.T0 p.t k⟩ (ge p.t k)) _ ⟨by omega,by rw[List.length_append];omega,h.take 3⟩ (by show p.en-(k+1)<p.en-k;omega) a (ha.kp [3,26,27,28]))
 have a4:=s;refine ql (eS (qd (qb (nS ?_))));refine yx 4<|q9 (yR1 (pX d) ?_);obtain rfl:k=p.en:=by omega
 obtain⟨x,tl,h⟩:=h.outRec 2;exact⟨_,x,tl,rfl,h⟩
theorem Own.bz {w:World}{o:Option Nat}{n c:Nat}{x:List Value}(h:Own w tU8 1 o n c x):(n=0/\c=0)\/ ∃b q,o.map at0=some ⟨b,q,none⟩:=by
 cases o with
 |none=>exact .inl (h.2.2.2.1 rfl)
 |some q=>exact .inr ⟨q,0,rfl⟩
theorem Own.ez {w:World}{o:Option Nat}{n c:Nat}{x:List Value}(h:Own w tEv 5 o n c x):n=0\/ ∃b off,o.map at0=some ⟨b,off,none⟩:=by
 cases o with
 |none=>exact .inl (h.2.2.2.1 rfl).1
 |some q=>exact .inr ⟨q,0,rfl⟩
theorem rc_ext {r q:Rc}(h1:r.start=q.start)(h2:r.evs=q.evs)(h3:r.keys.length=q.keys.length)(h4:∀j,j<r.keys.length->gky r.keys j=gky q.keys j):r=q:=by
 obtain⟨a,b,c⟩:=r
 obtain⟨a',b',c'⟩:=q
 dsimp only at*
 subst h1 h2
 congr 1
 refine List.ext_getElem h3 fun i g1 g2=>?_
 have:=h4 i g1
 unfold gky at this
 rw[List.getD_eq_getElem?_getD,List.getD_eq_getElem?_getD,List.getElem?_eq_getElem g1,List.getElem?_eq_getElem g2]at this
 exact this
theorem qmq {a b:Ky}(h1:a.after=b.after)(h2:a.state=b.state):a=b:=by
 cases a;cases b;dsimp only at*;subst h1 h2;rfl
theorem RcRd.ez {w:World}{b:Nat}{sa:Option Addr}{sn sc:Nat}{eo:Option Nat}{ec:Nat}{ko:Option Nat}{kc:Nat}{kx:Nat->Option Addr×Nat×Nat}{r:Rc}(h:RcRd w b sa sn sc eo ec ko kc kx r):r.evs.length=0\/ ∃b off,eo.map at0=some ⟨b,off,none⟩:=by
 rcases Nat.eq_zero_or_pos r.evs.length with h0|h0
 ·exact .inl h0
 ·obtain⟨eb,rfl⟩:=h.eb h0
  exact .inr ⟨eb,0,rfl⟩
section
variable {w0 w w':World}{F0:Nat->Prop}{l:List Asn}{T0:TS}{r:Rc}{whole:Bool}{o:Option Nat}{n c b:Nat}{x:ScX}{tl:List Value}{T:TypeId}
theorem SepOn.rcx {is:List Nat}(h:SepOn w0 F0 l is w)(k:Nat)(x:ScX)(tl:List Value)(T:TypeId)(hm:([k,k+1,k+2,k+3,k+4].all fun i=>is.contains i)=true:=by rfl)(h0:l[k]? =some (qbr b (recC x r tl) T):=by rfl)(h1:l[k+1]? =some (qaz tEv 5 x.eo r.evs.length x.ec (evsV r.evs)):=by rfl)(h2:l[k+2]? =some (qaz qgS 2 x.ko r.keys.length x.kc (qaL x.kx r.keys 0)):=by rfl)(h3:l[k+3]? =some (roA (roL x r)):=by rfl)(h4:l[k+4]? =some (qdT (ScOk x r)):=by rfl):RcRd w b x.sa x.sn x.sc x.eo x.ec x.ko x.kc x.kx r:=by
 obtain⟨l',h,e⟩:=h
 have g:=List.map_inj_left.1 e
 simp only[List.all_cons,List.all_nil,Bool.and_true,Bool.and_eq_true,List.contains_iff_mem]at hm
 obtain⟨m0,m1,m2,m3,m4⟩:=hm
 exact h.rcx k x tl T ((g _ m0).trans h0) ((g _ m1).trans h1) ((g _ m2).trans h2) ((g _ m3).trans h3) ((g _ m4).trans h4)
theorem SepOn.own {is:List Nat}{e:TypeId}{sz cap:Nat}{xs:List Value}(h:SepOn w0 F0 l is w)(i:Nat)(hm:is.contains i=true:=by rfl)(hi:l[i]? =some (qaz e sz o n cap xs):=by rfl):Own w e sz o n cap xs:=by
 obtain⟨l',h,e⟩:=h
 exact h.own i ((List.map_inj_left.1 e i (by simpa using hm)).trans hi)
theorem SepOn.ownRd' {is:List Nat}{e:TypeId}{sz cap:Nat}{xs:List Value}(h:SepOn w0 F0 l is w)(i:Nat)(hm:is.contains i=true:=by rfl)(hi:l[i]? =some (qaz e sz o n cap xs):=by rfl):Rd w (o.map at0) xs:=(h.own i hm hi).rd
theorem Sep.enc13 (h:Sep w0 F0 w l)(k:Nat)(x:ScX)(tl:List Value)(T:TypeId)(hW:RcB r)(whole:Bool)(h0:l[k]? =some (qbr b (recC x r tl) T):=by rfl)(h1:l[k+1]? =some (qaz tEv 5 x.eo r.evs.length x.ec (evsV r.evs)):=by rfl)(h2:l[k+2]? =some (qaz qgS 2 x.ko r.keys.length x.kc (qaL x.kx r.keys 0)):=by rfl)(h3:l[k+3]? =some (roA (roL x r)):=by rfl)(h4:l[k+4]? =some (qdT (ScOk x r)):=by rfl):
  Calls Tryz.prog 20 [.pointer (some ⟨b,0,none⟩),.bool whole].toArray w fun e w'=> ∃o n c,e= .returned (.slice (o.map at0) n c)/\Sep w0 F0 w' (l++[qaz tU8 1 o n c (u8s (qc8 r whole))]):=by
 have hR:=h.rcx k x tl T h0 h1 h2 h3 h4
 cases whole with
 |true=>exact(qcv b w hR hW).mono fun e w' ⟨o,n,c,he,hN⟩=>⟨o,n,c,he,h.join hN⟩
 |false=>exact(qd4 b w hR hW).mono fun e w' ⟨o,n,c,he,hN⟩=>⟨o,n,c,he,h.join hN⟩
theorem Sep.dec13 (h:Sep w0 (fun _=>False) w l)(hT:LT w0)(h7:gTop<=w0.heap.size)(i:Nat)(hOk:RcOk T0 r)(hW:RcB r)(hs:r.start=qN T0)(hT0:OkS T0)(hk:r.keys.length<=100000)(hl:(qc8 r whole).length<=9000000)(hi:l[i]? =some (qaz tU8 1 o n c (u8s (qc8 r whole))):=by rfl):
  Calls Tryz.prog 19 [.slice (o.map at0) n c].toArray w fun e w'=> ∃b x tl,e= .returned (.tuple #[.pointer (some ⟨b,0,none⟩),.int .i64 0])/\Sep w0 (fun _=>False) w' (l++recL b r x tl qfQ):=by
 have hO:=h.own i hi
 have hd:qpT T0 r.start=some T0:=by rw[hs];exact qpU T0
 have hr:=qh3 (dec:=qpT T0) hOk hW hd (by omega) whole
 have hdd:=dec_encR (dec:=qpT T0) hOk hW hd (by omega) whole
 refine(qlh (dec:=qpT T0) (o.map at0) n c (qc8 r whole) w (qat h.ch hT (fun _ h=>h.elim)) (Nat.le_trans h7 h.ch.size) hO.rd hO.len1' hO.2.1 hO.bz (qj1 hW (by omega) whole) (by have:=hO.len1';omega) (qpV hT0) (fun s k hh=>?_)).mono fun e w' ⟨v,x,he,hv⟩=>?_
 ·rw[hr]at hh
  obtain⟨rfl,rfl⟩:=Prod.mk.inj (Option.some.inj hh)
  exact⟨hW,qj1 hW (by omega) true⟩
 ·rcases hv with⟨hn,_⟩|⟨b,s,hs',rfl,rfl,hN⟩
  ·rw[hdd]at hn;cases hn
  ·rw[hdd]at hs'
   obtain rfl:=Option.some.inj hs'
   obtain⟨x,tl,hN⟩:=hN.scan
   exact⟨b,x,tl,he,h.join hN⟩
end
structure BuiltF (p:Plan)(r:Rc):Prop where
 st:r.start=qN p.T0
 ev:r.evs=p.t
 el:r.evs.length=p.en
 kl:r.keys.length=p.en/8
 kg:∀j,j<p.en/8->gky r.keys j=⟨8*(j+1),qN (qa3 p.T0 p.t (8*(j+1)))⟩
 W:RcB r
 ok:RcOk p.T0 r
 ln:∀whole,(qc8 r whole).length<=4000000
theorem qli {p:Plan}(hl:p.l.length=p.en)(hf:p.en<=40):BuiltF p (qdU p.T0 p.t p.en):=by
 obtain⟨h1,h2⟩:=Plan.tok (p:=p) (by omega)
 exact⟨rfl,List.take_of_length_le (by omega),by show(p.t.take p.en).length=p.en;rw[List.length_take];omega,qbS _ _ _,fun j hj=>qdP _ _ hj,recB_b p.ok h1 (by omega) (by omega),qq3 h1 (by omega),qmp p.ok h1 (by omega) (by omega)⟩
def qj8:TS:=startT zeroT 2 1
def fitE:Ev:=⟨3,0,⟨#[97]⟩,0,0⟩
theorem qh5:OkS qj8:=OkS.start 2 1
theorem qq5:evB fitE=true:=by decide+kernel
theorem fit_len:(qa9 83 (qN qj8)).length+(addB ⟨⟨qN qj8,[],[]⟩,qj8⟩ fitE).length<=2000:=by decide+kernel
abbrev fitR:Rc:=qdU qj8 [fitE] 1
theorem fit_add:addS ⟨⟨qN qj8,[],[]⟩,qj8⟩ fitE=⟨fitR,qa3 qj8 [fitE] 1⟩:=qq2 qj8 [fitE] (k:=0) (by decide)
theorem qlj:EvsOk [fitE]:=EvsOk.nil.snoc qq5 (by decide)
theorem fitR_ok:RcOk qj8 fitR:=qq3 qlj (by decide)
theorem fitR_b:RcB fitR:=recB_b qh5 qlj (by decide) (by decide)
theorem fitR_len (whole:Bool):(qc8 fitR whole).length<=4000000:=qmp qh5 qlj (by decide) (by decide) whole
theorem qdQ (b1:Nat){sa1:Option Addr}{sn1 sc1:Nat}{eo1:Option Nat}{ec1:Nat}{ko1:Option Nat}{kc1:Nat}{kx1:Nat->Option Addr×Nat×Nat}{r1:Rc}(b2:Nat){sa2:Option Addr}{sn2 sc2:Nat}{eo2:Option Nat}{ec2:Nat}{ko2:Option Nat}{kc2:Nat}{kx2:Nat->Option Addr×Nat×Nat}{r2:Rc}(w:World)(hR1:RcRd w b1 sa1 sn1 sc1 eo1 ec1 ko1 kc1 kx1 r1)(hR2:RcRd w b2 sa2 sn2 sc2 eo2 ec2 ko2 kc2 kx2 r2)(hW1:RcB r1)(hW2:RcB r2):Calls Tryz.prog 22 [pX b1,pX b2].toArray w fun e w'=> ∃r:Bool,e= .returned (.bool r)/\(r=true↔r1=r2)/\Ch (fun _=>False) w w':=by
 have a5:=hR1.en;have a6:=hR2.en;have h:=Sep.nil w;refine yA Tryz.func22 rfl<|yx 1<|ys<|ys<|zDC [28] [] h fun u h=>ydF [0,1,2,3,4,5,6,7,8,9,10,12,13,14,15] [] h.on (fun u h=>(.l (hR1.ch h.ch).c0 (.l (hR2.ch h.ch).c0 .z)))<|qa4 11 16 (by kernel_rfl) (by decide) ?_ ?_
 ·refine qF 11 _ (by kernel_rfl) rfl (qp sa1 sn1 sc1 (r1.start) (some 18) (by kernel_rfl) ((hR1.ch h.ch).st) ((hR1.ch h.ch).sl) ?_);refine zH h<|yH 16 (qp sa2 sn2 sc2 (r2.start) (some 23) (by kernel_rfl) ((hR2.ch h.ch).st) ((hR2.ch h.ch).sl) ?_);refine zH h<|ydF (uL 17 3) [] h.on (fun u h=> .z)<|yv [26] (rN (rY (((qf (r1.start))).toList==((qf (r2.start))).toList))) (fun d=>?_) fun d=>?_
  ·have H:=d;refine ydF (uL 20 24) [] h.on (fun u h=> .z)<|yDe (nS ?_);refine yct<|yx 1<|q9 (rS (yR1 (.bool false) ?_));exact⟨_,rfl,⟨fun e=>(by cases e),fun e=>absurd ((qs hW1.st.1 hW2.st.1).trans (decide_eq_true (by rw[e]))) (by simpa using H)⟩,h.ch⟩
  have I:=d;refine ydF (uL 20 8) [] h.on (fun u h=>(.l (hR1.ch h.ch).c1 (.l (hR2.ch h.ch).c1 .z)))<|yK 28 (yC (qfw (eo1.map at0) (eo2.map at0) r1.evs.length r2.evs.length ec1 ec2 r1.evs r2.evs _ (hR1.ch h.ch).ev (hR2.ch h.ch).ev rfl rfl (hR1.ch h.ch).ez (hR2.ch h.ch).ez (by omega) (by omega)) ?_);rintro _ u ⟨J,rfl,D,K⟩;refine⟨_,rfl,?_⟩;have h:=h.same K;refine q8<|yd (uL 29 3) [] .z<|yv [38] (rN (rY J)) (fun f=>?_) fun f=>?_
  ·have L:=f;refine yd (uL 32 12) [] .z<|yDe (nS ?_);refine yct<|yx 1<|q9 (rS (yR1 (.bool false) ?_));exact⟨_,rfl,⟨fun e=>(by cases e),fun e=>absurd (D.2 (by rw[e])) (by simpa using L)⟩,h.ch⟩
  have M:=f;refine yd (uL 32 12) [] (.l (hR1.ch h.ch).c2 (.l (hR2.ch h.ch).c2 .z))<|yDe (nS ?_);refine yc (rI ((r1.keys.length:Nat):Int) ((r2.keys.length:Nat):Int)) (fun g=>?_) fun g=>?_
  ·have a7:=g;refine yx 1<|q9 (rS (yR1 (.bool false) ?_));exact⟨_,rfl,⟨fun e=>(by cases e),fun e=>by subst e;omega⟩,h.ch⟩
  have a8:=g;refine yk<|ys<|ysr<|yp 6 [] (.l (hR1.ch h.ch).c2 .z)<|ye<|qa<|qT [1,54,55,56] (f':=[(1,pX b2),(54,.slice (ko1.map at0) r1.keys.length kc1),(55,iX ((r1.keys.length:Nat):Int)),(56,iX 0)])<|qx (σ:=Nat) (fun k=>[(1,pX b2),(54,.slice (ko1.map at0) r1.keys.length kc1),(55,iX ((r1.keys.length:Nat):Int)),(56,iX ((k:Nat):Int))]) (fun k u=>k<=r1.keys.length/\(∀j,j<k->gky r1.keys j=gky r2.keys j)/\Sep w (fun _=>False) u []) (fun k=>r1.keys.length-k) 0 rfl ?_ ?_
  ·exact⟨Nat.zero_le _,fun j hj=>absurd hj (Nat.not_lt_zero j),h.take 0⟩
  intro k u N a9 E;obtain⟨hk,hE,h⟩:=N;refine yx 1<|ys<|yc (rL ((k:Nat):Int) ((r1.keys.length:Nat):Int)) (fun n=>?_) fun n=>?_
  ·have aa:=n;obtain⟨O,rfl⟩:=(hR1.ch h.ch).kb (by omega);obtain⟨P,rfl⟩:=(hR2.ch h.ch).kb (by omega);refine yk<|ys<|qa<|ysr<|yp 3 [] (.i ((k:Nat):Int) (r1.keys.length) (.m ((hR1.ch h.ch).kyx (x:=((k:Nat):Int)) (i:=k) (by omega) (by omega)).1 (.m ((hR1.ch h.ch).kyx (x:=((k:Nat):Int)) (i:=k) (by omega) (by omega)).2 (.e .z))))<|yo (zN [iX 0,nX] 51 h fun u ab h=>?_);refine yq 5<|yo (zs h 0 fun u h=>?_);refine ye<|ys<|zDC [] [0] h fun u h=>ydF (uL 0 12) [] h.on (fun u h=>(.l (h.c 0 0) (.l (hR2.ch h.ch).c2 (.i ((k:Nat):Int) (r2.keys.length) (.l ((hR2.ch h.ch).kyx (x:=((k:Nat):Int)) (i:=k) (by omega) (by omega)).1 .z)))))<|yv [72] (rI (((gky r1.keys k).after:Nat):Int) (((gky r2.keys k).after:Nat):Int)) (fun o=>?_) fun o=>?_
   ·have ac:=o;refine ydF (uL 12 14) [] h.on (fun u h=> .z)<|yDe (nS ?_);refine yct<|yx 1<|q9 (rB (rS (qt (rB (rS (yR1 (.bool false) ?_))))));exact⟨_,rfl,⟨fun e=>(by cases e),fun e=>by subst e;omega⟩,h.ch⟩
   have ad:=o;refine ydF [12,13,15,16,17,18,19,20,21,22] [] h.on (fun u h=>(.l (h.c 0 1) (.l (hR2.ch h.ch).c2 (.i ((k:Nat):Int) (r2.keys.length) (.l ((hR2.ch h.ch).kyx (x:=((k:Nat):Int)) (i:=k) (by omega) (by omega)).2 .z)))))<|qa4 14 23 (by kernel_rfl) (by decide) ?_ ?_
   ·refine qF 14 _ (by kernel_rfl) rfl (qp (kx1 k).1 (kx1 k).2.1 (kx1 k).2.2 ((gky r1.keys k).state) (some 75) (by kernel_rfl) ((hR1.ch h.ch).kr k (by omega)).1 ((hR1.ch h.ch).kr k (by omega)).2.1 ?_);refine zH h<|yH 23 (qp (kx2 k).1 (kx2 k).2.1 (kx2 k).2.2 ((gky r2.keys k).state) (some 84) (by kernel_rfl) ((hR2.ch h.ch).kr k (by omega)).1 ((hR2.ch h.ch).kr k (by omega)).2.1 ?_);refine zH h<|ydF [24,25] [] h.on (fun u h=> .z)<|yDe (nS ?_);refine yc (rN (rY (((qf ((gky r1.keys k).state))).toList==((qf ((gky r2.keys k).state))).toList))) (fun p=>?_) fun p=>?_
    ·have Q:=p;refine yx 1<|q9 (rB (rS (qt (rB (rS (yR1 (.bool false) ?_))))));exact⟨_,rfl,⟨fun e=>(by cases e),fun e=>absurd ((qs (hW1.ks k (by omega)).1 (hW2.ks k (by omega)).1).trans (decide_eq_true (by rw[e]))) (by simpa using Q)⟩,h.ch⟩
    have R:=p;refine qk (nB (nS ?_));refine q7<|yp 2 [] (.q6 (((k:Nat):Int)+1) .z) ?_;have h:=h.nrm 0 [iX (((gky r1.keys k).after:Nat):Int),.slice (kx1 k).1 (kx1 k).2.1 (kx1 k).2.2];refine yE (fun a ha=>E (k+1) _ ⟨by omega,fun j hj=>(Nat.lt_or_ge j k).elim (fun b=>hE j b) fun b=>by(obtain rfl:j=k:=by omega);exact qmq (by omega) (of_decide_eq_true ((qs (hW1.ks j (by omega)).1 (hW2.ks j (by omega)).1).symm.trans (by simpa using R))),h.take 0⟩ (by show r1.keys.length-(k+1)<r1.keys.length-k;omega) a (ha.kp [1,54,55,56]))
   refine qF 23 _ (by kernel_rfl) rfl (qp (kx2 k).1 (kx2 k).2.1 (kx2 k).2.2 ((gky r2.keys k).state) (some 84) (by kernel_rfl) ((hR2.ch h.ch).kr k (by omega)).1 ((hR2.ch h.ch).kr k (by omega)).2.1 ?_);refine zH h<|yH 14 (qp (kx1 k).1 (kx1 k).2.1 (kx1 k).2.2 ((gky r1.keys k).state) (some 75) (by kernel_rfl) ((hR1.ch h.ch).kr k (by omega)).1 ((hR1.ch h.ch).kr k (by omega)).2.1 ?_);refine zH h<|ydF [24,25] [] h.on (fun u h=> .z)<|yDe (nS ?_);refine yc (rN (rY (((qf ((gky r1.keys k).state))).toList==((qf ((gky r2.keys k).state))).toList))) (fun q=>?_) fun q=>?_
   ·have S:=q;refine yx 1<|q9 (rB (rS (qt (rB (rS (yR1 (.bool false) ?_))))));exact⟨_,rfl,⟨fun e=>(by cases e),fun e=>absurd ((qs (hW1.ks k (by omega)).1 (hW2.ks k (by omega)).1).trans (decide_eq_true (by rw[e]))) (by simpa using S)⟩,h.ch⟩
   have T:=q;refine qk (nB (nS ?_));refine q7<|yp 2 [] (.q6 (((k:Nat):Int)+1) .z) ?_;have h:=h.nrm 0 [iX (((gky r1.keys k).after:Nat):Int),.slice (kx1 k).1 (kx1 k).2.1 (kx1 k).2.2];refine yE (fun a ha=>E (k+1) _ ⟨by omega,fun j hj=>(Nat.lt_or_ge j k).elim (fun b=>hE j b) fun b=>by(obtain rfl:j=k:=by omega);exact qmq (by omega) (of_decide_eq_true ((qs (hW1.ks j (by omega)).1 (hW2.ks j (by omega)).1).symm.trans (by simpa using T))),h.take 0⟩ (by show r1.keys.length-(k+1)<r1.keys.length-k;omega) a (ha.kp [1,54,55,56]))
  have ae:=n;refine ql (eS (qd (qb (nS ?_))));refine yx 1<|q9 (yR1 (.bool true) ?_);exact⟨_,rfl,⟨fun _=>rc_ext (of_decide_eq_true ((qs hW1.st.1 hW2.st.1).symm.trans (by simpa using I))) (D.1 (by simpa using M)) (by omega) fun j hj=>hE j (by omega),fun _=>rfl⟩,h.ch⟩
 refine qF 16 _ (by kernel_rfl) rfl (qp sa2 sn2 sc2 (r2.start) (some 23) (by kernel_rfl) ((hR2.ch h.ch).st) ((hR2.ch h.ch).sl) ?_);refine zH h<|yH 11 (qp sa1 sn1 sc1 (r1.start) (some 18) (by kernel_rfl) ((hR1.ch h.ch).st) ((hR1.ch h.ch).sl) ?_);refine zH h<|ydF (uL 17 3) [] h.on (fun u h=> .z)<|yv [26] (rN (rY (((qf (r1.start))).toList==((qf (r2.start))).toList))) (fun s=>?_) fun s=>?_
 ·have U:=s;refine ydF (uL 20 24) [] h.on (fun u h=> .z)<|yDe (nS ?_);refine yct<|yx 1<|q9 (rS (yR1 (.bool false) ?_));exact⟨_,rfl,⟨fun e=>(by cases e),fun e=>absurd ((qs hW1.st.1 hW2.st.1).trans (decide_eq_true (by rw[e]))) (by simpa using U)⟩,h.ch⟩
 have V:=s;refine ydF (uL 20 8) [] h.on (fun u h=>(.l (hR1.ch h.ch).c1 (.l (hR2.ch h.ch).c1 .z)))<|yK 28 (yC (qfw (eo1.map at0) (eo2.map at0) r1.evs.length r2.evs.length ec1 ec2 r1.evs r2.evs _ (hR1.ch h.ch).ev (hR2.ch h.ch).ev rfl rfl (hR1.ch h.ch).ez (hR2.ch h.ch).ez (by omega) (by omega)) ?_);rintro _ u ⟨W,rfl,F,X⟩;refine⟨_,rfl,?_⟩;have h:=h.same X;refine q8<|yd (uL 29 3) [] .z<|yv [38] (rN (rY W)) (fun t=>?_) fun t=>?_
 ·have Y:=t;refine yd (uL 32 12) [] .z<|yDe (nS ?_);refine yct<|yx 1<|q9 (rS (yR1 (.bool false) ?_));exact⟨_,rfl,⟨fun e=>(by cases e),fun e=>absurd (F.2 (by rw[e])) (by simpa using Y)⟩,h.ch⟩
 have Z:=t;refine yd (uL 32 12) [] (.l (hR1.ch h.ch).c2 (.l (hR2.ch h.ch).c2 .z))<|yDe (nS ?_);refine yc (rI ((r1.keys.length:Nat):Int) ((r2.keys.length:Nat):Int)) (fun v=>?_) fun v=>?_
 ·have af:=v;refine yx 1<|q9 (rS (yR1 (.bool false) ?_));exact⟨_,rfl,⟨fun e=>(by cases e),fun e=>by subst e;omega⟩,h.ch⟩
 have ag:=v;refine yk<|ys<|ysr<|yp 6 [] (.l (hR1.ch h.ch).c2 .z)<|ye<|qa<|qT [1,54,55,56] (f':=[(1,pX b2),(54,.slice (ko1.map at0) r1.keys.length kc1),(55,iX ((r1.keys.length:Nat):Int)),(56,iX 0)])<|qx (σ:=Nat) (fun k=>[(1,pX b2),(54,.slice (ko1.map at0) r1.keys.length kc1),(55,iX ((r1.keys.length:Nat):Int)),(56,iX ((k:Nat):Int))]) (fun k u=>k<=r1.keys.length/\(∀j,j<k->gky r1.keys j=gky r2.keys j)/\Sep w (fun _=>False) u []) (fun k=>r1.keys.length-k) 0 rfl ?_ ?_
 ·exact⟨Nat.zero_le _,fun j hj=>absurd hj (Nat.not_lt_zero j),h.take 0⟩
 intro k u a0 ah G;obtain⟨hk,hE,h⟩:=a0;refine yx 1<|ys<|yc (rL ((k:Nat):Int) ((r1.keys.length:Nat):Int)) (fun y=>?_) fun y=>?_
 ·have ai:=y;obtain⟨O,rfl⟩:=(hR1.ch h.ch).kb (by omega);obtain⟨P,rfl⟩:=(hR2.ch h.ch).kb (by omega);refine yk<|ys<|qa<|ysr<|yp 3 [] (.i ((k:Nat):Int) (r1.keys.length) (.m ((hR1.ch h.ch).kyx (x:=((k:Nat):Int)) (i:=k) (by omega) (by omega)).1 (.m ((hR1.ch h.ch).kyx (x:=((k:Nat):Int)) (i:=k) (by omega) (by omega)).2 (.e .z))))<|yo (zN [iX 0,nX] 51 h fun u aj h=>?_);refine yq 5<|yo (zs h 0 fun u h=>?_);refine ye<|ys<|zDC [] [0] h fun u h=>ydF (uL 0 12) [] h.on (fun u h=>(.l (h.c 0 0) (.l (hR2.ch h.ch).c2 (.i ((k:Nat):Int) (r2.keys.length) (.l ((hR2.ch h.ch).kyx (x:=((k:Nat):Int)) (i:=k) (by omega) (by omega)).1 .z)))))<|yv [72] (rI (((gky r1.keys k).after:Nat):Int) (((gky r2.keys k).after:Nat):Int)) (fun A=>?_) fun A=>?_
  ·have ak:=A;refine ydF (uL 12 14) [] h.on (fun u h=> .z)<|yDe (nS ?_);refine yct<|yx 1<|q9 (rB (rS (qt (rB (rS (yR1 (.bool false) ?_))))));exact⟨_,rfl,⟨fun e=>(by cases e),fun e=>by subst e;omega⟩,h.ch⟩
  have al:=A;refine ydF [12,13,15,16,17,18,19,20,21,22] [] h.on (fun u h=>(.l (h.c 0 1) (.l (hR2.ch h.ch).c2 (.i ((k:Nat):Int) (r2.keys.length) (.l ((hR2.ch h.ch).kyx (x:=((k:Nat):Int)) (i:=k) (by omega) (by omega)).2 .z)))))<|qa4 14 23 (by kernel_rfl) (by decide) ?_ ?_
  ·refine qF 14 _ (by kernel_rfl) rfl (qp (kx1 k).1 (kx1 k).2.1 (kx1 k).2.2 ((gky r1.keys k).state) (some 75) (by kernel_rfl) ((hR1.ch h.ch).kr k (by omega)).1 ((hR1.ch h.ch).kr k (by omega)).2.1 ?_);refine zH h<|yH 23 (qp (kx2 k).1 (kx2 k).2.1 (kx2 k).2.2 ((gky r2.keys k).state) (some 84) (by kernel_rfl) ((hR2.ch h.ch).kr k (by omega)).1 ((hR2.ch h.ch).kr k (by omega)).2.1 ?_);refine zH h<|ydF [24,25] [] h.on (fun u h=> .z)<|yDe (nS ?_);refine yc (rN (rY (((qf ((gky r1.keys k).state))).toList==((qf ((gky r2.keys k).state))).toList))) (fun B=>?_) fun B=>?_
   ·have a1:=B;refine yx 1<|q9 (rB (rS (qt (rB (rS (yR1 (.bool false) ?_))))));exact⟨_,rfl,⟨fun e=>(by cases e),fun e=>absurd ((qs (hW1.ks k (by omega)).1 (hW2.ks k (by omega)).1).trans (decide_eq_true (by rw[e]))) (by simpa using a1)⟩,h.ch⟩
   have a2:=B;refine qk (nB (nS ?_));refine q7<|yp 2 [] (.q6 (((k:Nat):Int)+1) .z) ?_;have h:=h.nrm 0 [iX (((gky r1.keys k).after:Nat):Int),.slice (kx1 k).1 (kx1 k).2.1 (kx1 k).2.2];refine yE (fun a ha=>G (k+1) _ ⟨by omega,fun j hj=>(Nat.lt_or_ge j k).elim (fun b=>hE j b) fun b=>by(obtain rfl:j=k:=by omega);exact qmq (by omega) (of_decide_eq_true ((qs (hW1.ks j (by omega)).1 (hW2.ks j (by omega)).1).symm.trans (by simpa using a2))),h.take 0⟩ (by show r1.keys.length-(k+1)<r1.keys.length-k;omega) a (ha.kp [1,54,55,56]))
  refine qF 23 _ (by kernel_rfl) rfl (qp (kx2 k).1 (kx2 k).2.1 (kx2 k).2.2 ((gky r2.keys k).state) (some 84) (by kernel_rfl) ((hR2.ch h.ch).kr k (by omega)).1 ((hR2.ch h.ch).kr k (by omega)).2.1 ?_);refine zH h<|yH 14 (qp (kx1 k).1 (kx1 k).2.1 (kx1 k).2.2 ((gky r1.keys k).state) (some 75) (by kernel_rfl) ((hR1.ch h.ch).kr k (by omega)).1 ((hR1.ch h.ch).kr k (by omega)).2.1 ?_);refine zH h<|ydF [24,25] [] h.on (fun u h=> .z)<|yDe (nS ?_);refine yc (rN (rY (((qf ((gky r1.keys k).state))).toList==((qf ((gky r2.keys k).state))).toList))) (fun C=>?_) fun C=>?_
  ·have a3:=C;refine yx 1<|q9 (rB (rS (qt (rB (rS (yR1 (.bool false) ?_))))));exact⟨_,rfl,⟨fun e=>(by cases e),fun e=>absurd ((qs (hW1.ks k (by omega)).1 (hW2.ks k (by omega)).1).trans (decide_eq_true (by rw[e]))) (by simpa using a3)⟩,h.ch⟩
  have a4:=C;refine qk (nB (nS ?_));refine q7<|yp 2 [] (.q6 (((k:Nat):Int)+1) .z) ?_;have h:=h.nrm 0 [iX (((gky r1.keys k).after:Nat):Int),.slice (kx1 k).1 (kx1 k).2.1 (kx1 k).2.2];refine yE (fun a ha=>G (k+1) _ ⟨by omega,fun j hj=>(Nat.lt_or_ge j k).elim (fun b=>hE j b) fun b=>by(obtain rfl:j=k:=by omega);exact qmq (by omega) (of_decide_eq_true ((qs (hW1.ks j (by omega)).1 (hW2.ks j (by omega)).1).symm.trans (by simpa using a4))),h.take 0⟩ (by show r1.keys.length-(k+1)<r1.keys.length-k;omega) a (ha.kp [1,54,55,56]))
 have am:=y;refine ql (eS (qd (qb (nS ?_))));refine yx 1<|q9 (yR1 (.bool true) ?_);exact⟨_,rfl,⟨fun _=>rc_ext (of_decide_eq_true ((qs hW1.st.1 hW2.st.1).symm.trans (by simpa using V))) (F.1 (by simpa using Z)) (by omega) fun j hj=>hE j (by omega),fun _=>rfl⟩,h.ch⟩
theorem qh6 (w:World)(hT:LT w)(h7:gTop<=w.heap.size):Calls Tryz.prog 14 [].toArray w fun e w'=>e= .returned (.bool true)/\Ch (fun _=>False) w w':=by
 have h:=Sep.nil w;refine yA Tryz.func14 rfl<|yx 1<|ysr<|yo (yC (qeK (2) (1) _ (qat h.ch hT (fun _ h=>h.elim)) (Nat.le_trans h7 h.ch.size)) ?_);rintro _ u ⟨y,rfl,A,B⟩;refine⟨_,rfl,?_⟩;have h:=h.newTm (U:=qj8) A B;refine yz 2<|ysr<|yo (yC (qm9 2000 _) ?_);rintro _ u ⟨a,rfl,C⟩;refine⟨_,rfl,?_⟩;have h:=h.addN C;rw[show max (2000:Int) 0=2000 by decide]at h;refine yz 2<|ys<|ysr ?_;obtain⟨W,X,h⟩:=h.opn 0;refine yp 13 [] (.l (h.tg 0) .z)<|ye<|ycf<|yk<|ysr<|yq 2 ?_;obtain⟨g,d,i,j⟩:=h.ex;have Y:=fit_len;refine yo (yC (qi3 a y qj8 2000 0 (g 1) (g 0) _ (d 1 _ rfl) (h.gz (gz0 h7) (j 1)) (tmA.of (tmA.at (d 0 _ rfl))) (i 0 1 (by decide)) qh5 (by omega) (by decide)) ?_);rintro _ u ⟨c,rfl,D⟩;refine⟨_,rfl,?_⟩;have h:=h.into 1 d i j (by simp only[List.length_append,List.length_cons,List.length_nil,List.length_set];omega) D;have h:=Sep.pack (l:=[]) (L:=fun _:Unit=>[qbf a ⟨some ⟨qa9 83 (qN qj8),0⟩,2000,false,0,false⟩,qeb c a ⟨⟨qN qj8,[],[]⟩,qj8⟩]) () (h.ord [1,2]).eqv;refine yz 8<|ys<|ysr<|yq 9<|yo (yQ (h.stepA (gz0 h7) 0 (fun F hA E=>qq0 c a ⟨qN qj8,[],[]⟩ qj8 (qa9 83 (qN qj8)) 0 2000 0 fitE F _ hA E (qat h.ch hT (fun _ h=>h.elim)) qh5 qq5 (by decide) (by decide) (by decide) (by omega) (by omega) (by decide))) fun u h=>?_);rw[fit_add]at h;refine yz 12<|ycf<|yk<|ysr<|yq 3 ?_;obtain⟨G,k,h⟩:=h.outRec 0
 obtain⟨m,n,o,p,q,s,t,v,x⟩:=G;refine yo (yC (h.enc13 0 ⟨m,n,o,p,q,s,t,v,x⟩ k qw fitR_b true) ?_);rintro _ u ⟨Z,H,a0,rfl,h⟩;refine⟨_,rfl,?_⟩;have a1:(qc8 fitR true).length=H:=by have:=h.len1 5;rwa[List.length_map]at this
 refine yo (yC (h.dec13 (whole:=true) hT h7 5 fitR_ok fitR_b rfl qh5 (by decide) (by have:=fitR_len true;omega)) ?_);rintro _ u ⟨b24,I,J,rfl,h⟩;refine⟨_,rfl,?_⟩;obtain⟨K,M,N,O,P,Q,R,S,T⟩:=I;refine yz 10<|ysr<|yp 15 [] (.l (h.rcx 6 (b:=b24) (r:=fitR) ⟨K,M,N,O,P,Q,R,S,T⟩ J qfQ).c1 .z)<|yw [62] (rE ((fitR.evs.length:Nat):Int) 1) (fun f=>?_) fun f=>?_
 ·have a2:=f;refine yq 18<|yo (yQ (h.look (qeY c _ (h.rcx 0 (b:=c) (r:=fitR) ⟨m,n,o,p,q,s,t,v,x⟩ k qw))) fun u h=>?_);refine yz 22<|q9 (yR1 (.bool (((qae fitR.evs):Int)==3)) ?_);exact⟨rfl,h.ch⟩
 have V:=f;exact absurd rfl V
end Go.Proofs.YtjjcnhgpccancaaGreatDoor.X

namespace Go.Proofs.YtjjcnhgpccancaaGreatDoor
open Go.ChangeShapes Go.WideShapes Go.ChangeAt Go.RowKit
theorem qec:ownKnob Tryz.prog.godebug=none:=by kernel_rfl
abbrev qky:List (String×DataW Unit):=[("flipbook/glyph.wide",Rows.laid_flipbook_glyph_wide),("flipbook/glyph.signs",Rows.laid_flipbook_glyph_signs),("math/bits.deBruijn32tab",Rows.laid_math_bits_deBruijn32tab),("math/bits.deBruijn64tab",Rows.laid_math_bits_deBruijn64tab),("internal/strconv.uint64pow10",Rows.laid_internal_strconv_uint64pow10),("unicode/utf8.acceptRanges",Rows.laid_unicode_utf8_acceptRanges),("unicode/utf8.first",Rows.laid_unicode_utf8_first)]
theorem qlk (os:Os)(args:Array Value):laidMetH Tryz.prog qky ((World.laidAll Tryz.prog os qky).forCall (fun _ _=>0) ⟨#[],args,[]⟩).memory:=by
 rw[MakeChecks.laidMetH_plain _ _ _ (by kernel_rfl)];exact laidMet_laidAll _ (by kernel_rfl) (by kernel_rfl)
theorem qfy (os:Os):(World.laidAll Tryz.prog os qky).Shaped Tryz.prog:=World.shaped_of_ZipB (by kernel_rfl) (by kernel_rfl)
theorem qcw {W:World}{g n t:Nat}{k:IntKind}{e:TypeId}(he:Tryz.prog.underlying e=some (.int k))(ce:Tryz.prog.cellsOf e=1){name:String}{cs:Array Value}{fuel:Nat}{l:List Int}{q:List MemPlace}(hg:Tryz.prog.globalNamed name=some g)(hv:W.var? Tryz.prog name=some cs)
  (hd:DataW.trod (H:=Unit) (fun _=>()) Tryz.prog W 0 (fun _=>true) false fuel t cs.toList=some (.agg (l.map fun n=> .lit (.int k n)),q))
  (ht:Tryz.prog.underlying t=some (.array n e)) (hl:l.length=n):∀r,r<l.length->W.cell? ⟨g,r,none⟩=some (.int k (l.getD r 0)):=by
 obtain⟨xs,m,_,ex,_,hlx,hel⟩:=DataW.trod_array ht hd
 intro r hr
 have hE:=hel r (by omega)
 rw[ce,Nat.mul_one,List.getElem?_eq_getElem (by omega)]at hE
 obtain⟨z,e1,e2,_⟩:=DataW.trod_int he hE
 have e3:(xs.map (·.1))=l.map fun n=> .lit (.int k n):=(DataW.agg.inj (Prod.mk.inj ex).1).symm
 have e4:(xs.map (·.1))[r]? =(l.map fun n=>(DataW.lit (.int k n):DataW Unit))[r]? :=by rw[e3]
 rw[List.getElem?_map,List.getElem?_map,List.getElem?_eq_getElem (by omega:r<xs.length),List.getElem?_eq_getElem (by omega:r<l.length),e2]at e4
 have hz:z=l.getD r 0:=by
  simp only[Option.map_some,Option.some.injEq,DataW.lit.injEq,Lit.int.injEq,true_and]at e4
  rw[e4,List.getD,List.getElem?_eq_getElem (by omega:r<l.length)];rfl
 rw[World.var?_cell hg hv r,<-hz]
 have:cs.toList[r]? =some (.int k z):=by
  have h0:((cs.toList.drop r).take 1)[0]? =some (.int k z):=by rw[e1];rfl
  simpa using h0
 simpa using this
theorem qj3 {W:World}{g n t e u:Nat}{k:IntKind}{fs:Array Field}(hs:Tryz.prog.underlying e=some (.struct fs))(h0:∃f,fs[0]? =some f/\f.type=u/\f.offset=0)(h1:∃f,fs[1]? =some f/\f.type=u/\f.offset=1)(hz:fs.size=2)(hu:Tryz.prog.underlying u=some (.int k))(ce:Tryz.prog.cellsOf e=2)(cu:Tryz.prog.cellsOf u=1)
  {name:String} {cs:Array Value} {fuel:Nat} {l:List (Int×Int)} {q:List MemPlace} (hg:Tryz.prog.globalNamed name=some g) (hv:W.var? Tryz.prog name=some cs)
  (hd:DataW.trod (H:=Unit) (fun _=>()) Tryz.prog W 0 (fun _=>true) false fuel t cs.toList=some (.agg (l.map fun p=> .agg [.lit (.int k p.1),.lit (.int k p.2)]),q))
  (ht:Tryz.prog.underlying t=some (.array n e)) (hl:l.length=n):∀r p,l[r]? =some p->W.cell? ⟨g,r*2,none⟩=some (.int k p.1)/\W.cell? ⟨g,r*2+1,none⟩=some (.int k p.2):=by
 obtain⟨xs,m,_,ex,_,hlx,hel⟩:=DataW.trod_array ht hd
 intro r p hp
 have hr:r<l.length:=(List.getElem?_eq_some_iff.1 hp).1
 have hE:=hel r (by omega)
 rw[ce,List.getElem?_eq_getElem (by omega)]at hE
 have e3:(xs.map (·.1))=l.map fun p=> .agg [.lit (.int k p.1),.lit (.int k p.2)]:=(DataW.agg.inj (Prod.mk.inj ex).1).symm
 have e4:(xs.map (·.1))[r]? =(l.map fun p=>(DataW.agg [.lit (.int k p.1),.lit (.int k p.2)]:DataW Unit))[r]? :=by rw[e3]
 rw[List.getElem?_map,List.getElem?_map,List.getElem?_eq_getElem (by omega:r<xs.length),hp]at e4
 simp only[Option.map_some,Option.some.injEq]at e4
 obtain⟨ys,m2,_,ey,_,hly,hfy⟩:=DataW.trod_struct hs hE
 rw[ey]at e4
 have e5:=DataW.agg.inj e4
 obtain⟨f0,hf0,t0,o0⟩:=h0
 obtain⟨f1,hf1,t1,o1⟩:=h1
 have k0:=hfy 0 f0 hf0
 have k1:=hfy 1 f1 hf1
 rw[t0,o0,cu,List.drop_zero,List.take_take]at k0
 rw[t1,o1,cu]at k1
 have hy:ys.length=2:=by rw[hly,hz]
 rw[List.getElem?_eq_getElem (by omega)]at k0 k1
 obtain⟨z0,a0,b0,_⟩:=DataW.trod_int hu k0
 obtain⟨z1,a1,b1,_⟩:=DataW.trod_int hu k1
 have c0:(ys.map (·.1))[0]? =some (.lit (.int k p.1)):=by rw[e5];rfl
 have c1:(ys.map (·.1))[1]? =some (.lit (.int k p.2)):=by rw[e5];rfl
 rw[List.getElem?_map,List.getElem?_eq_getElem (by omega),b0]at c0
 rw[List.getElem?_map,List.getElem?_eq_getElem (by omega),b1]at c1
 simp only[Option.map_some,Option.some.injEq,DataW.lit.injEq,Lit.int.injEq,true_and]at c0 c1
 subst c0 c1
 have d0:cs.toList[r*2]? =some (.int k p.1):=by
  have h0:((cs.toList.drop (r*2)).take (min 1 2))[0]? =some (.int k p.1):=by rw[a0];rfl
  simpa using h0
 have d1:cs.toList[r*2+1]? =some (.int k p.2):=by
  have h0:((((cs.toList.drop (r*2)).take 2).drop 1).take 1)[0]? =some (.int k p.2):=by rw[a1];rfl
  simpa using h0
 exact⟨by rw[World.var?_cell hg hv];simpa using d0,by rw[World.var?_cell hg hv];simpa using d1⟩
def firstL:List Int:=(List.range 256).map X.firstN
def accL:List (Int×Int):=(List.range 16).map X.accN
theorem qj4 {c:Nat}(h:c<256):firstL.length=256/\firstL.getD c 0=X.firstN c:=by
 have e:firstL.length=256:=by simp[firstL]
 refine⟨e,?_⟩
 rw[List.getD,firstL,List.getElem?_map,List.getElem?_range h];rfl
theorem acc_at {i:Nat}(h:i<16):accL[i]? =some (X.accN i):=by
 rw[accL,List.getElem?_map,List.getElem?_range h];rfl
set_option maxRecDepth 100000 in
theorem qfz {W:World}(h:laidMetH Tryz.prog qky W):X.LT W:=by
 rw[MakeChecks.laidMetH_plain _ _ _ (by kernel_rfl)]at h
 obtain⟨ps,⟨g0,t0,cs0,f0,p0,q0,hg0,ht0,hv0,hd0,⟨g1,t1,cs1,f1,p1,q1,hg1,ht1,hv1,hd1,⟨g2,t2,cs2,f2,p2,q2,hg2,ht2,hv2,hd2,⟨g3,t3,cs3,f3,p3,q3,hg3,ht3,hv3,hd3,⟨g4,t4,cs4,f4,p4,q4,hg4,ht4,hv4,hd4,⟨g5,t5,cs5,f5,p5,q5,hg5,ht5,hv5,hd5,⟨g6,t6,cs6,f6,p6,q6,hg6,ht6,hv6,hd6,_,_⟩,_⟩,_⟩,_⟩,_⟩,_⟩,_⟩,_,_⟩:=h
 obtain rfl:=Option.some.inj ((show Tryz.prog.globalNamed "flipbook/glyph.wide" =some 0 by kernel_rfl).symm.trans hg0)
 obtain rfl:=Option.some.inj ((show Tryz.prog.globalNamed "flipbook/glyph.signs" =some 3 by kernel_rfl).symm.trans hg1)
 obtain rfl:=Option.some.inj ((show Tryz.prog.globalNamed "internal/strconv.uint64pow10" =some 4 by kernel_rfl).symm.trans hg4)
 obtain rfl:=Option.some.inj ((show Tryz.prog.globalNamed "unicode/utf8.acceptRanges" =some 2 by kernel_rfl).symm.trans hg5)
 obtain rfl:=Option.some.inj ((show Tryz.prog.globalNamed "unicode/utf8.first" =some 1 by kernel_rfl).symm.trans hg6)
 obtain rfl:=Option.some.inj ((show(Tryz.prog.globals[0]?).map (·.type)=some 258 by kernel_rfl).symm.trans ht0)
 obtain rfl:=Option.some.inj ((show(Tryz.prog.globals[3]?).map (·.type)=some 270 by kernel_rfl).symm.trans ht1)
 obtain rfl:=Option.some.inj ((show(Tryz.prog.globals[4]?).map (·.type)=some 284 by kernel_rfl).symm.trans ht4)
 obtain rfl:=Option.some.inj ((show(Tryz.prog.globals[2]?).map (·.type)=some 262 by kernel_rfl).symm.trans ht5)
 obtain rfl:=Option.some.inj ((show(Tryz.prog.globals[1]?).map (·.type)=some 259 by kernel_rfl).symm.trans ht6)
 have z6:Rows.laid_unicode_utf8_first= .agg (firstL.map fun n=> .lit (.int .u8 n)):=by kernel_rfl
 rw[z6]at hd6
 have z5:(Rows.laid_unicode_utf8_acceptRanges:DataW Unit)= .agg (accL.map fun p=> .agg [.lit (.int .u8 p.1),.lit (.int .u8 p.2)]):=by kernel_rfl
 rw[z5]at hd5
 refine⟨⟨qcw (k:= .i32) (e:=21) (by kernel_rfl) (by kernel_rfl) hg0 hv0 hd0 (by kernel_rfl) rfl,qcw (k:= .i32) (e:=21) (by kernel_rfl) (by kernel_rfl) hg1 hv1 hd1 (by kernel_rfl) rfl⟩,⟨fun c hc=>?_,fun i hi=>?_⟩,fun i hi=>?_⟩
 ·have:=qcw (k:= .u8) (e:=5) (by kernel_rfl) (by kernel_rfl) hg6 hv6 hd6 (by kernel_rfl) (qj4 hc).1 c (by rw[(qj4 hc).1];exact hc)
  rw[(qj4 hc).2]at this;exact this
 ·exact qj3 (k:= .u8) (e:=261) (u:=5) Tryz.underlying261 ⟨_,rfl,rfl,rfl⟩ ⟨_,rfl,rfl,rfl⟩ rfl Tryz.underlying5 (by kernel_rfl) (by kernel_rfl) hg5 hv5 hd5 Tryz.underlying262 (by simp[accL]) i _ (acc_at hi)
 ·have h1:=qcw (k:= .u64) (e:=110) (l:=[1,10,100,1000,10000,100000,1000000,10000000,100000000,1000000000,10000000000,100000000000,1000000000000,10000000000000,100000000000000,1000000000000000,10000000000000000,100000000000000000,1000000000000000000,10000000000000000000]) (by kernel_rfl) (by kernel_rfl) hg4 hv4 hd4 (by kernel_rfl) rfl i (Nat.lt_of_lt_of_le hi (by decide))
  rw[h1]
  obtain rfl|rfl|rfl:i=0\/i=1\/i=2:=by omega
  all_goals rfl
end Go.Proofs.YtjjcnhgpccancaaGreatDoor
namespace Go.Proofs.YtjjcnhgpccancaaGreatDoor
open Go.ChangeShapes Go.WideShapes Go.ChangeAt Go.RowKit
section
variable {H:Type}{enc:TypeId×Value->H}{P:Program}{w:World}{base:Nat}{spare:Nat->Bool}{held:Bool}
theorem qf3 {α:Type}{l:List α}{i:Nat}{x:α}(h:(l.drop i).take 1=[x]):l[i]? =some x:=by
 have h0:((l.drop i).take 1)[0]? =some x:=by rw[h];rfl
 simpa using h0
end
theorem qed {w w':World}(h:X.Ch (fun _=>False) w w'):Below w.heap.size w w':=⟨h.os,h.tape,h.output,h.size,fun k hk=>h.block k hk id⟩
theorem qee {W:World}(h:laidMetH Tryz.prog qky W):X.gTop<=W.heap.size:=by
 rw[MakeChecks.laidMetH_plain _ _ _ (by kernel_rfl)]at h
 obtain⟨ps,⟨g0,t0,cs0,f0,p0,q0,hg0,ht0,hv0,hd0,⟨g1,t1,cs1,f1,p1,q1,hg1,ht1,hv1,hd1,⟨g2,t2,cs2,f2,p2,q2,hg2,ht2,hv2,hd2,⟨g3,t3,cs3,f3,p3,q3,hg3,ht3,hv3,hd3,_,_⟩,_⟩,_⟩,_⟩,_,_⟩:=h
 obtain rfl:=Option.some.inj ((show Tryz.prog.globalNamed "math/bits.deBruijn64tab" =some 6 by kernel_rfl).symm.trans hg3)
 obtain rfl:=Option.some.inj ((show(Tryz.prog.globals[6]?).map (·.type)=some 288 by kernel_rfl).symm.trans ht3)
 obtain⟨xs,m,_,_,hlen,_⟩:=DataW.trod_array Tryz.underlying288 hd3
 have hl:cs3.toList.length=64:=hlen.trans (by kernel_rfl)
 have hc:=World.var?_cell hg3 hv3 0
 have:∃v,cs3[0]? =some v:=⟨_,Array.getElem?_eq_getElem (by simpa using(show 0<cs3.toList.length by omega))⟩
 obtain⟨v,hv⟩:=this
 rw[hv]at hc
 have:=X.cell_lt hc
 show 7<=_
 omega
end Go.Proofs.YtjjcnhgpccancaaGreatDoor

namespace Go.Proofs.YtjjcnhgpccancaaGreatDoor
open Go.ChangeShapes Go.WideShapes Go.ChangeAt Go.RowKit
theorem X.flat_sz {A:Type}{sz:Nat}{vals:A->List Value}(hv:∀x,(vals x).length=sz):∀l:List A,((l.map vals).flatten).length=l.length*sz
 |[]=>by simp
 |x::l=>by rw[List.map_cons,List.flatten_cons,List.length_append,hv,X.flat_sz hv l,List.length_cons,Nat.add_mul];omega
theorem X.flat_ix {A:Type}{sz:Nat}{vals:A->List Value}(hv:∀x,(vals x).length=sz):∀(l:List A) (i j:Nat) (hi:i<l.length),j<sz->((l.map vals).flatten)[i*sz+j]? =(vals l[i])[j]?
 |x::l,0,j,_,hj=>by
  rw[List.map_cons,List.flatten_cons,Nat.zero_mul,Nat.zero_add,List.getElem?_append_left (by rw[hv];exact hj)];rfl
 |x::l,i+1,j,hi,hj=>by
  have e:(i+1)*sz=sz+i*sz:=by rw[Nat.add_mul];omega
  rw[List.map_cons,List.flatten_cons,List.getElem?_append_right (by rw[hv];omega),hv,show(i+1)*sz+j-sz=i*sz+j by omega,X.flat_ix hv l i j (by simpa using hi) hj];rfl
section
variable {H:Type}{enc:TypeId×Value->H}{w:World}{base:Nat}
theorem qh7 {A:Type}[Inhabited A](sz:Nat)(h0:0<sz)(vals:A->List Value)(hv:∀x,(vals x).length=sz)(Pq:A->Prop){et t:TypeId}(ce:Tryz.prog.cellsOf et=sz)(ht:Tryz.prog.underlying t=some (.slice et))
  (hs:∀(x:A) (b off:Nat) q,w.cell? ⟨b,off,some q⟩≠(vals x)[0]?) (each:∀n cs x,DataW.trod enc Tryz.prog w base (fun _=>true) true n et cs=some x->cs.length=sz-> ∃y,cs=vals y/\Pq y)
  {n0:Nat} {v:Value} {x:DataW H×List MemPlace} (hf:DataW.trod enc Tryz.prog w base (fun _=>true) true n0 t [v]=some x):
  ∃(a:Option Addr) (n c:Nat) (l:List A),v= .slice a n c/\(n=0\/ ∃b off,a=some ⟨b,off,none⟩)/\X.Rd w a ((l.map vals).flatten)/\l.length=n/\(∀y∈l,Pq y)/\(a=none->c=0)/\n<=c/\c<=maxLen:=by
 rcases Deep.open_slice ht hf with⟨h0',_⟩|⟨a,len,cap,m,n,D,Pl,hv',_,hl,hmx,hm,_,hx⟩
 ·have h1:v= .slice (none) 0 0:=List.head_eq_of_cons_eq h0'
  exact⟨none,0,0,[],h1,.inl rfl,X.Rd.nil _ _,rfl,(fun y hy=>by cases hy),fun _=>rfl,Nat.le_refl _,Nat.zero_le _⟩
 ·have h1:v= .slice (some a) len cap:=List.head_eq_of_cons_eq hv'
  have hm':m=cap:=by simpa using hm
  rw[ce]at hx
  have each':∀i,i<len-> ∃y:A,w.cells? base (a.add (i*sz)) sz=some (vals y)/\Pq y:=fun i hi=>by
   obtain⟨cs,e1,e2⟩:=hx i (by omega)
   obtain⟨_,hlen,_⟩:=World.cells?_some e1
   obtain⟨y,rfl,hy⟩:=each _ _ _ e2 hlen
   exact⟨y,e1,hy⟩
  obtain⟨f,hfy⟩:=Deep.choose_lt each'
  refine⟨some a,len,cap,(List.range len).map f,h1,?_,⟨fun e=>(by cases e),fun ad e j u hj=>?_⟩,by simp,fun y hy=>?_,(fun e=>by cases e),hl,hmx⟩
  ·rcases Nat.eq_zero_or_pos len with hz|hz
   ·exact .inl hz
   ·right
    obtain⟨_,_,hc⟩:=World.cells?_some (hfy 0 hz).1
    have h2:=hc 0 h0
    rw[Deep.add_add,Nat.zero_mul]at h2
    have h3:w.cell? a=(vals (f 0))[0]? :=h2
    obtain⟨b,off,sp⟩:=a
    cases sp with
    |none=>exact⟨b,off,rfl⟩
    |some q=>exact absurd h3 (hs _ b off q)
  ·obtain rfl:a=ad:=by injection e
   have hlen:(((List.range len).map f).map vals).flatten.length=len*sz:=by rw[X.flat_sz hv];simp
   have hlt:j<len*sz:=by
    rw[<-hlen]
    exact(List.getElem?_eq_some_iff.1 hj).1
   have hi:j/sz<len:=(Nat.div_lt_iff_lt_mul h0).2 hlt
   have hr:j % sz<sz:=Nat.mod_lt _ h0
   have hjj:j=j/sz*sz+j % sz:=by rw[Nat.mul_comm];exact(Nat.div_add_mod j sz).symm
   have h2:=X.flat_ix hv ((List.range len).map f) (j/sz) (j % sz) (by simpa using hi) hr
   rw[<-hjj,hj,List.getElem_map,List.getElem_range]at h2
   obtain⟨_,_,hc⟩:=World.cells?_some (hfy (j/sz) hi).1
   have h3:=hc (j % sz) hr
   rw[Deep.add_add,<-hjj]at h3
   rw[h3,<-h2]
  ·obtain⟨i,hi,rfl⟩:=List.mem_map.1 hy
   exact(hfy i (List.mem_range.1 hi)).2
theorem qkz:∀l:List Int,(l.map fun x=>[Value.int .i64 x]).flatten=l.map (Value.int .i64)
 |[]=>rfl
 |x::l=>by rw[List.map_cons,List.flatten_cons,qkz l];rfl
theorem five_of {cs:List Value}{a b c d e:Value}(hl:cs.length=5)(h0:cs[0]? =some a)(h1:cs[1]? =some b)(h2:cs[2]? =some c)(h3:cs[3]? =some d)(h4:cs[4]? =some e):cs=[a,b,c,d,e]:=by
 match cs,hl with
 |[u0,u1,u2,u3,u4],_=>
  simp only[List.getElem?_cons_zero,List.getElem?_cons_succ,Option.some.injEq]at h0 h1 h2 h3 h4
  rw[h0,h1,h2,h3,h4]
theorem agg4 {P:Program}{r:Reach}{b0:Nat}{t:TypeId}{fs:Array Field}{v:Value}(ht:P.underlying t=some (.struct fs))(ct:P.cellsOf t=4)(hval:Value.okWide P w r b0 t v):∃u0 u1 u2 u3,v= .agg #[u0,u1,u2,u3]:=by
 obtain⟨cs,rfl,hs⟩:∃cs,v= .agg cs/\cs.size=4:=by
  unfold Value.okWide at hval
  rw[ht]at hval
  obtain⟨cs,h1,h2,_⟩:=hval
  exact⟨cs,h1,by rw[h2,ct]⟩
 match hl:cs.toList,(show cs.toList.length=4 by simpa using hs)with
 |[a,b,c,d],_=>exact⟨a,b,c,d,by rw[<-Array.toArray_toList (xs:=cs),hl]⟩
set_option maxRecDepth 100000 in
theorem ev_cells {n:Nat}{cs:List Value}{x:DataW H×List MemPlace}(h:DataW.trod enc Tryz.prog w base (fun _=>true) true n 66 cs=some x)(hl:cs.length=5):∃y:X.Ev,cs=y.vals/\True:=by
 obtain⟨xs,m,_,_,_,hlx,hf⟩:=DataW.trod_struct Tryz.underlying66 h
 have c1:Tryz.prog.cellsOf 9=1:=by kernel_rfl
 have c2:Tryz.prog.cellsOf 3=1:=by kernel_rfl
 have k0:DataW.trod enc Tryz.prog w base (fun _=>true) true m 3 ((cs.drop 0).take (Tryz.prog.cellsOf 3))=xs[0]? :=hf 0 _ rfl
 have k1:DataW.trod enc Tryz.prog w base (fun _=>true) true m 3 ((cs.drop 1).take (Tryz.prog.cellsOf 3))=xs[1]? :=hf 1 _ rfl
 have k2:DataW.trod enc Tryz.prog w base (fun _=>true) true m 9 ((cs.drop 2).take (Tryz.prog.cellsOf 9))=xs[2]? :=hf 2 _ rfl
 have k3:DataW.trod enc Tryz.prog w base (fun _=>true) true m 3 ((cs.drop 3).take (Tryz.prog.cellsOf 3))=xs[3]? :=hf 3 _ rfl
 have k4:DataW.trod enc Tryz.prog w base (fun _=>true) true m 3 ((cs.drop 4).take (Tryz.prog.cellsOf 3))=xs[4]? :=hf 4 _ rfl
 rw[c1]at k2
 rw[c2]at k0 k1 k3 k4
 have hlx5:xs.length=5:=hlx
 rw[List.getElem?_eq_getElem (by omega)]at k0 k1 k2 k3 k4
 obtain⟨a,a0,_⟩:=DataW.trod_int Tryz.underlying3 k0
 obtain⟨b,a1,_⟩:=DataW.trod_int Tryz.underlying3 k1
 obtain⟨s,a2,_⟩:=DataW.trod_string Tryz.underlying9 k2
 obtain⟨c,a3,_⟩:=DataW.trod_int Tryz.underlying3 k3
 obtain⟨d,a4,_⟩:=DataW.trod_int Tryz.underlying3 k4
 exact⟨⟨a,b,s,c,d⟩,five_of hl (qf3 a0) (qf3 a1) (qf3 a2) (qf3 a3) (qf3 a4),trivial⟩
set_option maxRecDepth 100000 in
theorem evs_open {n0:Nat}{v:Value}{x:DataW H×List MemPlace}(hf:DataW.trod enc Tryz.prog w base (fun _=>true) true n0 23 [v]=some x):
  ∃(a:Option Addr) (n c:Nat) (l:List X.Ev),v= .slice a n c/\(n=0\/ ∃b off,a=some ⟨b,off,none⟩)/\X.Rd w a (X.evsV l)/\l.length=n/\(a=none->c=0)/\n<=9223372036854775807:=by
 have:Inhabited X.Ev:=⟨X.ev0⟩
 obtain⟨a,n,c,l,e,h1,h2,h3,_,h4,h5,h6⟩:=qh7 (w:=w) 5 (by decide) X.Ev.vals (fun _=>rfl) (fun _=>True) (by kernel_rfl) Tryz.underlying23 (fun x b off q h=>by
  have h':w.cell? ⟨b,off,some q⟩=some (.int .i64 x.time):=h
  unfold World.cell? at h'
  split at h'
  ·simp at h'
  ·cases h') (fun _ _ _=>ev_cells) hf
 exact⟨a,n,c,l,e,h1,h2,h3,h4,Nat.le_trans h5 h6⟩
set_option maxRecDepth 100000 in
theorem qnx {n0:Nat}{v:Value}{x:DataW H×List MemPlace}(hf:DataW.trod enc Tryz.prog w base (fun _=>true) true n0 24 [v]=some x):
  ∃(a:Option Addr) (n c:Nat) (l:List Int),v= .slice a n c/\(n=0\/ ∃b off,a=some ⟨b,off,none⟩)/\X.Rd w a (l.map (Value.int .i64))/\l.length=n/\n<=9223372036854775807:=by
 obtain⟨a,n,c,l,e,h1,h2,h3,_,_,h5,h6⟩:=qh7 (w:=w) (A:=Int) 1 (by decide) (fun x=>[.int .i64 x]) (fun _=>rfl) (fun _=>True) (by kernel_rfl) Tryz.underlying24 (fun x b off q h=>by
  have h':w.cell? ⟨b,off,some q⟩=some (.int .i64 x):=h
  unfold World.cell? at h'
  split at h'
  ·simp at h'
  ·cases h') (fun n cs x h hl=>by
   obtain⟨z,a0,_⟩:=DataW.trod_int Tryz.underlying3 h
   exact⟨z,a0,trivial⟩) hf
 refine⟨a,n,c,l,e,h1,?_,h3,Nat.le_trans h5 h6⟩
 have e2:(l.map fun x=>[Value.int .i64 x]).flatten=l.map (Value.int .i64):=by
  exact qkz l
 rwa[e2]at h2
set_option maxRecDepth 100000 in
theorem qh8 {r:Reach}{b0:Nat}{v:Value}{d:DataW H}{ps:List MemPlace}(hval:Value.okWide Tryz.prog w r b0 26 v)(hd:DataW.Trod enc Tryz.prog w base (fun _=>true) true 26 v d ps):∃p:X.Plan,v=p.val/\X.PlanIn w p:=by
 obtain⟨u0,u1,u2,u3,rfl⟩:=agg4 Tryz.underlying26 (by kernel_rfl) hval
 obtain⟨fuel,hf⟩:=hd
 obtain⟨xs,m,_,_,_,hlx,hf⟩:=DataW.trod_struct Tryz.underlying26 hf
 have c1:Tryz.prog.cellsOf 22=2:=by kernel_rfl
 have c2:Tryz.prog.cellsOf 23=1:=by kernel_rfl
 have c3:Tryz.prog.cellsOf 24=1:=by kernel_rfl
 have ci:Tryz.prog.cellsOf 3=1:=by kernel_rfl
 have hlx3:xs.length=3:=hlx
 have k0:DataW.trod enc Tryz.prog w base (fun _=>true) true m 22 (([u0,u1,u2,u3].drop 0).take (Tryz.prog.cellsOf 22))=xs[0]? :=hf 0 _ rfl
 have k1:DataW.trod enc Tryz.prog w base (fun _=>true) true m 23 (([u0,u1,u2,u3].drop 2).take (Tryz.prog.cellsOf 23))=xs[1]? :=hf 1 _ rfl
 have k2:DataW.trod enc Tryz.prog w base (fun _=>true) true m 24 (([u0,u1,u2,u3].drop 3).take (Tryz.prog.cellsOf 24))=xs[2]? :=hf 2 _ rfl
 rw[c1]at k0
 rw[c2]at k1
 rw[c3]at k2
 rw[List.getElem?_eq_getElem (by omega)]at k0 k1 k2
 obtain⟨ys,m2,_,_,_,hly,hel⟩:=DataW.trod_array Tryz.underlying22 k0
 have g0:=hel 0 (by decide)
 have g1:=hel 1 (by decide)
 rw[ci,List.getElem?_eq_getElem (by omega)]at g0 g1
 obtain⟨a,a0,_⟩:=DataW.trod_int Tryz.underlying3 g0
 obtain⟨b,a1,_⟩:=DataW.trod_int Tryz.underlying3 g1
 obtain⟨ea,en,ec,l,e1,z1,r1,l1,_,m1⟩:=evs_open (v:=u2) k1
 obtain⟨ma,mn,mc,ms,e2,z2,r2,l2,m2'⟩:=qnx (v:=u3) k2
 have q0:u0= .int .i64 a:=List.head_eq_of_cons_eq a0
 have q1:u1= .int .i64 b:=List.head_eq_of_cons_eq a1
 exact⟨⟨a,b,ea,en,ec,l,ma,mn,mc,ms⟩,by rw[q0,q1,e1,e2];rfl,⟨r1,l1,z1,r2,l2,z2,m1,m2'⟩⟩
end
end Go.Proofs.YtjjcnhgpccancaaGreatDoor



