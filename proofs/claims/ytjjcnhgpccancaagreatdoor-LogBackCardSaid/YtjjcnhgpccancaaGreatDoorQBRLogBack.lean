/- The statement LogBack: its row and its card, proved for every input. -/
import Derived.Test.YtjjcnhgpccancaaGreatDoorQB7
import Derived.Test.YtjjcnhgpccancaaGreatDoorTie
import Derived.Test.YtjjcnhgpccancaaGreatDoorCards
import Derived.ProofKit
import Derived.OpenShut
import Derived.LaidMore
import Derived.Lay
import Derived.SevenTiedAt
import Derived.Stop.Joined
import Derived.Below
import Derived.Carry
set_option linter.unusedSimpArgs false
set_option linter.unusedVariables false
set_option maxHeartbeats 4000000
namespace Go.Proofs.YtjjcnhgpccancaaGreatDoor.X
open Go Go.RowKit Go.Proofs.YtjjcnhgpccancaaGreatDoor
section
variable {w0 w w':World}{F0:Nat->Prop}{l:List Asn}{T0:TS}{r:Rc}{whole:Bool}{o:Option Nat}{n c b:Nat}{x:ScX}{tl:List Value}{T:TypeId}
theorem Sep.resc13 (h:Sep w0 (fun _=>False) w l)(hT:LT w0)(h7:gTop<=w0.heap.size)(i:Nat)(hOk:RcOk T0 r)(hW:RcB r)(hs:r.start=qN T0)(hT0:OkS T0)(hk:r.keys.length<=100000)(hl:(qc8 r whole).length<=9000000)(hi:l[i]? =some (qaz tU8 1 o n c (u8s (qc8 r whole))):=by rfl):
  Calls Tryz.prog 21 [.slice (o.map at0) n c].toArray w fun e w'=> ∃b x tl,e= .returned (.tuple #[.pointer (some ⟨b,0,none⟩),.int .i64 (((qc8 r false).length:Nat):Int),.int .i64 0])/\Sep w0 (fun _=>False) w' (l++recL b r x tl qfQ):=by
 have hO:=h.own i hi
 have hd:qpT T0 r.start=some T0:=by rw[hs];exact qpU T0
 have hr:=qh3 (dec:=qpT T0) hOk hW hd (by omega) whole
 refine(qi2 (dec:=qpT T0) (o.map at0) n c (qc8 r whole) w (qat h.ch hT (fun _ h=>h.elim)) (Nat.le_trans h7 h.ch.size) hO.rd hO.len1' hO.2.1 hO.bz (qj1 hW (by omega) whole) (by have:=hO.len1';omega) (qpV hT0)).mono fun e w' ⟨v,k,x,he,hv⟩=>?_
 rcases hv with⟨hn,_⟩|⟨b,s,hs',rfl,rfl,hN⟩
 ·rw[hr]at hn;cases hn
 ·rw[hr]at hs'
  obtain⟨rfl,rfl⟩:=Prod.mk.inj (Option.some.inj hs')
  obtain⟨x,tl,hN⟩:=hN.scan
  exact⟨b,x,tl,he,h.join hN⟩
end
end Go.Proofs.YtjjcnhgpccancaaGreatDoor.X
namespace Go.Proofs.YtjjcnhgpccancaaGreatDoor.X
open Go Go.RowKit Go.Proofs.YtjjcnhgpccancaaGreatDoor
theorem back13_any (p:Plan)(whole:Bool)(w:World)(hT:LT w)(h7:gTop<=w.heap.size)(hP:PlanIn w p):Calls Tryz.prog 3 [p.val,.bool whole].toArray w fun e w'=>e= .returned (.bool true)/\Ch (fun _=>False) w w':=by
 have h:=Sep.nil w;refine yA Tryz.func3 rfl<|ysr<|yo (zN [iX p.p1,iX p.p2,.slice p.ea p.en p.ec,.slice p.ma p.mn p.mc] 26 h fun u av h=>?_);refine yz 2<|ys<|ysr<|yo (yQ (h.look (qh6 _ (qat h.ch hT (fun _ h=>h.elim)) (Nat.le_trans h7 h.ch.size))) fun u h=>?_);refine yz 2<|ycf<|yk<|ys<|ysr<|yp 1 [] (.a (h.cs 0 0 4) .z)<|yo (yC (qj2 p _) ?_);rintro _ u ⟨H,rfl,I,J⟩;refine⟨_,rfl,?_⟩;have h:=h.same J;refine yz 3<|yc (rN (rY H)) (fun x=>?_) fun x=>?_
 ·have aw:=x;refine yx 1<|q9 (rS (yR1 (.bool true) ?_));exact⟨rfl,h.ch⟩
 have K:=x;obtain⟨y,ax⟩:=I.1 K;obtain⟨ay,az⟩:=Plan.tok (p:=p) (by have:=hP.el;omega);have aA:=hP.el;have L:p.t.length=p.en:=by omega
 refine yk<|ysr<|yp 1 [] (.a (h.cs 0 0 4) .z)<|yo (yC (qfx p _ (qat h.ch hT (fun _ h=>h.elim)) (Nat.le_trans h7 h.ch.size) (hP.ch h.ch) y) ?_);rintro _ u ⟨v,M,i,rfl,N⟩;refine⟨_,rfl,?_⟩;have h:=h.join N;obtain⟨d,E⟩:∃r,r=qdU p.T0 p.t p.en:=⟨_,rfl⟩
 rw[<-E]at h;have c:BuiltF p d:=E▸qli hP.el y;have aB:=c.el;have aC:=c.kl;obtain⟨j,k,m,f,g,n,o,q,s⟩:=M;refine yz 3<|ys<|ys<|zDC [9] [0,1,2,3,4,5] h fun u h=>ydF (uL 0 8) [] h.on (fun u h=>(.l (h.rcx 1 (b:=v) (r:=d) ⟨j,k,m,f,g,n,o,q,s⟩ i qw).c1 (.a (h.cs 0 0 4) .z)))<|yH 8 (yC (qh4 p _ (hP.ch h.ch) y) ?_);rintro _ u ⟨O,P,rfl,Q⟩;refine⟨_,rfl,?_⟩;have h:=h.join Q;refine zHa h<|yK 9 (yC (qfw (f.map at0) (O.map at0) d.evs.length p.en g P d.evs p.t _ (h.rcx 1 (b:=v) (r:=d) ⟨j,k,m,f,g,n,o,q,s⟩ i qw).ev (h.ownRd' 6) rfl L (h.rcx 1 (b:=v) (r:=d) ⟨j,k,m,f,g,n,o,q,s⟩ i qw).ez (h.own 6).ez (by omega) (by omega)) ?_);rintro _ u ⟨R,rfl,S,T⟩;refine⟨_,rfl,?_⟩;have h:=h.same T;refine q8<|yd [10,11] [] .z<|yDe (nS ?_);refine yc (rN (rY R)) (fun A=>?_) fun A=>?_
 ·have U:=A;exact absurd (S.2 c.ev) (Bool.eq_false_iff.1 U)
 have aD:=A;refine yk<|ysr<|yq 2<|yo (yC (h.enc13 1 ⟨j,k,m,f,g,n,o,q,s⟩ i qw c.W whole) ?_);rintro _ u ⟨aE,V,aF,rfl,h⟩;refine⟨_,rfl,?_⟩;have aG:(qc8 d whole).length=V:=by have:=h.len1 7;rwa[List.length_map]at this
 refine yo (yC (h.dec13 (whole:=whole) hT h7 7 c.ok c.W c.st p.ok (by omega) (by have:=c.ln whole;omega)) ?_);rintro _ u ⟨F,X,Y,rfl,h⟩;refine⟨_,rfl,?_⟩;obtain⟨Z,a0,a1,a2,a3,a4,a5,a6,t2⟩:=X;refine yz 9<|ysr<|yq 2<|yo (yC (h.enc13 1 ⟨j,k,m,f,g,n,o,q,s⟩ i qw c.W whole) ?_);rintro _ u ⟨aH,a8,aI,rfl,h⟩;refine⟨_,rfl,?_⟩;have aJ:(qc8 d whole).length=a8:=by have:=h.len1 13;rwa[List.length_map]at this
 refine yo (yC (h.resc13 (whole:=whole) hT h7 13 c.ok c.W c.st p.ok (by omega) (by have:=c.ln whole;omega)) ?_);rintro _ u ⟨G,x3,aa,rfl,h⟩;refine⟨_,rfl,?_⟩;obtain⟨ab,ac,ad,ae,af,ag,ah,ai,t3⟩:=x3;refine yz 11<|ysr<|yq 5<|yo (yC (qdQ F v _ (h.rcx 8 (b:=F) (r:=d) ⟨Z,a0,a1,a2,a3,a4,a5,a6,t2⟩ Y qfQ) (h.rcx 1 (b:=v) (r:=d) ⟨j,k,m,f,g,n,o,q,s⟩ i qw) c.W c.W) ?_);rintro _ u ⟨ak,rfl,al,am⟩;refine⟨_,rfl,?_⟩;have h:=h.same am;refine yq 8<|yw [52] (rY ak) (fun B=>?_) fun B=>?_
 ·have aK:=B;refine yq 14<|yo (yC (qdQ G v _ (h.rcx 14 (b:=G) (r:=d) ⟨ab,ac,ad,ae,af,ag,ah,ai,t3⟩ aa qfQ) (h.rcx 1 (b:=v) (r:=d) ⟨j,k,m,f,g,n,o,q,s⟩ i qw) c.W c.W) ?_);rintro _ u ⟨an,rfl,ao,ap⟩;refine⟨_,rfl,?_⟩;have h:=h.same ap;refine yq 17<|yw [61] (rY an) (fun C=>?_) fun C=>?_
  ·have aL:=C;refine yq 19<|yo (yC (h.enc13 1 ⟨j,k,m,f,g,n,o,q,s⟩ i qw c.W false) ?_);rintro _ u ⟨aM,D,aN,rfl,h⟩;refine⟨_,rfl,?_⟩;have aq:(qc8 d false).length=D:=by have:=h.len1 19;rwa[List.length_map]at this
   refine yz 24<|q9 (yR1 (.bool (((((qc8 d false).length:Nat):Int):Int)==((D:Nat):Int))) ?_);exact⟨by rw[show(((((qc8 d false).length:Nat):Int):Int)==((D:Nat):Int))=true from beq_iff_eq.2 (by have:=aq;omega)],h.ch⟩
  have ar:=C;exact absurd (ao.2 rfl) (Bool.eq_false_iff.1 ar)
 have au:=B;exact absurd (al.2 rfl) (Bool.eq_false_iff.1 au)
end Go.Proofs.YtjjcnhgpccancaaGreatDoor.X
namespace Go.Proofs.YtjjcnhgpccancaaGreatDoor
open Go.ChangeShapes Go.WideShapes Go.ChangeAt Go.RowKit
set_option maxRecDepth 100000 in
theorem logBack_lifted (os:Os)(started:os.Started)(H:Type)(enc:TypeId×Value->H):
    ReturnsInHanded {} Tryz.checked os 3 .any (fun w args=>(Rows.logBackSpec.pre enc Tryz.prog Tryz.f3 [] false w args/\laidMetH Tryz.prog Rows.logBackRow.laid w)/\sizedMet enc Tryz.prog Tryz.f3 (OpenSpec.ofChange Rows.logBackSpec) false w args)
      (Rows.logBackSpec.post enc Tryz.prog Tryz.f3 false true false false):=by
  refine returnsInHanded_of_change_and (C:=Tryz.checked) (X:=fun w _=>laidMetH Tryz.prog Rows.logBackRow.laid w) (fun _ _ _ hh h=>h.of_heap hh) qec started (by kernel_rfl) Tryz.func3
    (ChangeSpec.witness_shaped (enc:=enc) (C:=Tryz.checked) (os:=os) (X:=fun w _=>laidMetH Tryz.prog Rows.logBackRow.laid w) false (World.laidAll Tryz.prog os qky) #[.agg #[.int .i64 0,.int .i64 0,.slice none 0 0,.slice none 0 0],.bool false] 8 (World.laidAll_os _ _ _) (qfy os) (by kernel_rfl) (by kernel_rfl) (by kernel_rfl) (qlk os _)) ?_
  intro W base args ds gs before hval0 hW _ _ hL _
  have hval:∀(j:Nat) t v,Tryz.f3.params[j]? =some t->args[j]? =some v->Value.okWide Tryz.prog W .any base t v:=hval0
  have hW':=hW
  obtain⟨p,q,hA0,hV,rfl,hfz,hnd⟩:=hW
  have hA:DataW.TrodAll enc Tryz.prog W 0 (fun _=>true) true Tryz.f3.params.toList args.toList ds p:=hA0
  rw[Tryz.params3]at hA hval
  obtain⟨v0,vs0,d0,ds0,p0,q0,hargs,rfl,rfl,h0,r0⟩:=trodAll_cons hA
  obtain⟨v1,vs1,d1,ds1,p1,q1,rfl,rfl,rfl,h1,r1⟩:=trodAll_cons r0
  obtain⟨rfl,rfl,rfl⟩:=trodAll_nil r1
  obtain rfl:args= #[v0,v1]:=by cases args;simp_all
  obtain⟨rfl,rfl⟩:=trodVars_none hV
  obtain⟨a0,rfl,e0⟩:=qh8 (hval 0 26 v0 rfl rfl) h0
  obtain⟨a1,rfl,rfl,rfl⟩:=open_bool Tryz.underlying4 (hval 1 4 v1 rfl rfl) h1
  clear hA0 hval0
  have hlt:=DataW.Whole.lt hW'
  refine(X.back13_any a0 a1 W (qfz hL) (qee hL) e0).mono fun e W' ⟨he,hc⟩=>?_
  have bel:=qed hc
  subst he
  exact⟨_,rfl,_,_,_,[],_,[],hW',trodAll_mk1 (shut_bool Tryz.underlying4 _),(trodAll_cons_mk (Below.trod (by kernel_rfl) (by kernel_rfl) (of_decide_eq_true (by kernel_rfl)) h0 bel (fun x hx=>hlt x (by simp[hx]))) (trodAll_cons_mk (shut_bool Tryz.underlying4 _) trodAll_mk0)),rfl,bel.frame _,fun h=>by cases h⟩
theorem logBack_holds:Rows.LogBackSaid:=
  OpenClaim.holds_of_wide 3 Tryz.f3 rfl rfl rfl rfl rfl rfl rfl ⟨rfl,rfl,rfl,rfl,rfl⟩ rfl rfl rfl rfl rfl (by kernel_rfl) Tryz.func3 (by kernel_rfl)
    (of_decide_eq_true (by kernel_rfl)) (by unfold Func.isWrapper;first|(rw[if_pos (by decide+kernel)];kernel_rfl)|(rw[if_neg (by decide+kernel)];exact⟨rfl,rfl⟩))
    (fun os started H enc _=>logBack_lifted os started H enc)
theorem logBack_card_holds:Rows.LogBackCardSaid:=
  Claim7.holds_tied_plain_at .later [] [.data,.data,.data,.data,.data,.data,.pinned] true (true,"2b54949b506e2926f88e7eea2b840edd9a6a7340db8b0d167da3910ee1a9c266") false
    logBack_holds (fun _ h=>by cases h) (by kernel_rfl) (fun _ h=>by cases h) logBack_row_tie rfl ⟨rfl,rfl⟩ (by kernel_rfl) rfl
    (fun f fn hf hfn=>by
      obtain rfl:f=3:=Option.some.inj ((show Tryz.prog.funcNamed "flipbook/flipbooklaw13.LogBack" =some 3 by kernel_rfl).symm.trans hf)|>.symm
      obtain rfl:fn=Tryz.f3:=(Option.some.inj (Tryz.func3.symm.trans hfn)).symm
      exact⟨by kernel_rfl,fun j t ht=>by
        rw[Tryz.params3]at ht
        have hm:t∈[26,4]:=by simpa using Array.mem_of_getElem? ht
        have hall:([26,4].all fun u=> !Tryz.prog.wantsStandIn u)=true:=by kernel_rfl
        exact(show Tryz.prog.wantsStandIn t=false by simpa using List.all_eq_true.1 hall t hm)⟩)
    (by kernel_rfl)
#print axioms logBack_card_holds
end Go.Proofs.YtjjcnhgpccancaaGreatDoor
