/- What the proofs of LogBytes need, part 7: the walks of the program's functions and the plain laws about them. -/
import Derived.Test.YtjjcnhgpccancaaGreatDoorQC6
import Derived.Test.YtjjcnhgpccancaaGreatDoorRows
import Derived.ProofKit
import Derived.OpenShut
import Derived.ChangeArms
import Derived.LaidMore
import Derived.Lay
import Derived.Stop.Joined
import Derived.Below
import Derived.SevenTiedAt
import Derived.Deep.Slices
import Derived.Carry
set_option linter.unusedSimpArgs false
set_option linter.unusedVariables false
set_option maxHeartbeats 4000000
namespace Go.Proofs.YtjjcnhgpccancaaGreatDoor.X
open Go Go.RowKit Go.Proofs.YtjjcnhgpccancaaGreatDoor
theorem qb6 (o:Option Nat)(n cap:Nat)(xs:List Int)(m:Int)(w:World)(hO:Own w tU8 1 o n cap (u8s xs))(hm:0<=m/\m<=9223372036854775807)(hz:n+10<=1000000000):CP 70 [.slice (o.map at0) n cap,iX m].toArray w fun e w'=> ∃o' n' c',e= .returned (.slice (o'.map at0) n' c')/\Own w' tU8 1 o' n' c' (u8s (xs++qw m.toNat))/\(xs++qw m.toNat).length=n'/\App w w' o o':=by
 have h:=Sep.startO hO;refine yA Tryz.func70 rfl<|yx 1<|ys<|qa<|qV [0,1] (f':=[(0,.slice (o.map at0) n cap),(1,iX m)])<|qx (σ:=Int×Nat×List Int×Option Nat×Nat×Nat) (fun⟨x,f,zs,d,c,g⟩=>[(0,.slice (d.map at0) c g),(1,iX x)]) (fun⟨x,f,zs,d,c,g⟩ u=>0<=x/\x.toNat<128^(f+1)/\zs++qh7 f x.toNat=xs++qw m.toNat/\c+f+1<=n+10/\x<=m/\Sep w (fun k=>o=some k) u [qan tU8 1 d c g (u8s zs)]) (fun⟨x,f,zs,d,c,g⟩=>x.toNat) (m,9,xs,o,n,cap) rfl ?_ ?_
 ·exact⟨hm.1,(by have s:(128:Nat)^(9+1)=1180591620717411303424:=(by decide);rw[s];omega),rfl,by omega,Int.le_refl _,h.take 1⟩
 intro q u t I v;obtain⟨x,f,zs,d,c,g⟩:=q;obtain⟨j,y,l,hn2,J,h⟩:=t;have K:zs.length=c:=by have:=h.len1 0;rwa[hJ]at this
 refine ys<|yx 2<|yc (rL 127 x) (fun i=>?_) fun i=>?_
 ·have L:=i;refine yk<|qa<|ysr ?_;refine yp 5 [] (.p (q:=0<=(x:Int)/\0<(128:Int)) (by constructor<;>omega) (.q6 ((x % 128)+128) .z)) ?_;refine yo (zB [uX (IntKind.wrap .u8 ((x % 128)+128))] 5 1 h fun u A h=>?_);refine yo (zA (a2:=(some ⟨A,0,none⟩)) (ys:=u8s ([(IntKind.wrap .u8 ((x % 128)+128))])) 0 1 1 1 (c+1) (u8s (zs++[(IntKind.wrap .u8 ((x % 128)+128))])) h (Rd.all (h.b 1)) (qN _) (hz:=(qb4 _ _).symm) (hy:=rfl) (hn2:=(fun e=>by cases e)) fun u B C h M=>?_);have N:(zs++[(IntKind.wrap .u8 ((x % 128)+128))]).length=(c+1):=by have:=h.len1 0;rwa[hJ]at this
  refine yz 8<|q7 ?_;refine yp 3 [] (.p (q:=0<=(x:Int)/\0<(128:Int)) (by constructor<;>omega) (.q6 (x/128) .z)) ?_;obtain⟨f,rfl⟩:∃f',f=f'+1:=by
   cases f with
   |zero=>exfalso;have:x.toNat<128:=y;omega
   |succ f=>exact⟨f,rfl⟩
  have O:128^(f+1+1)=128^(f+1)*128:=rfl;have hq:zs++[IntKind.wrap .u8 (x % 128+128)]++qh7 f (x/128).toNat=xs++qw m.toNat:=by rw[<-l,qdR (by omega),wr_low13 j,show(x/128).toNat=x.toNat/128 by omega,ie];rfl
  refine yE (nB (fun a ha=>v (x/128,f,zs++[(IntKind.wrap .u8 ((x % 128)+128))],B,(c+1),C) _ ⟨by omega,by omega,hq,by omega,by omega,h.take 1⟩ (by show(x/128).toNat<x.toNat;omega) a (ha.kp [0,1])))
 have P:=i;refine qm (eS (qd (qb (nS ?_))));refine ysr<|yq 3<|yo (zB [uX (IntKind.wrap .u8 x)] 5 1 h fun u D h=>?_);refine yo (zA (a2:=(some ⟨D,0,none⟩)) (ys:=u8s ([(IntKind.wrap .u8 x)])) 0 1 1 1 (c+1) (u8s (zs++[(IntKind.wrap .u8 x)])) h (Rd.all (h.b 1)) (qN _) (hz:=(qb4 _ _).symm) (hy:=rfl) (hn2:=(fun e=>by cases e)) fun u E F h Q=>?_);have R:(zs++[(IntKind.wrap .u8 x)]).length=(c+1):=by have:=h.len1 0;rwa[hJ]at this
 refine yz 6<|q9 (yR1 (.slice (E.map at0) (c+1) F) ?_);have G:(zs++[(IntKind.wrap .u8 x)]:List Int)=xs++qw m.toNat:=by rw[<-l,qcg (by omega),wr_top13 j (by omega)]
 rw[G]at h;obtain⟨r,H⟩:=h.finA 0;exact⟨_,_,_,rfl,r,r.len1',H⟩
theorem qqq (b cap:Nat)(l:List Int)(w:World)(hr:Rd w (some ⟨b,0,none⟩) (u8s l))(hby:qaw l)(hn:l.length<=1000000000):CP 71 [.slice (some ⟨b,0,none⟩) l.length cap].toArray w (RQ (.int .u32 (qcd l)) w):=by
 have h:=Sep.nil w;refine yA Tryz.func71 rfl<|yx 1<|yx 1<|ys<|yx 1<|qa<|qV [0,3,4] (f':=[(0,.slice (some ⟨b,0,none⟩) l.length cap),(3,.int .u32 4294967295),(4,iX 0)])<|qx (σ:=Nat×Int) (fun⟨k,y⟩=>[(0,.slice (some ⟨b,0,none⟩) l.length cap),(3,.int .u32 y),(4,iX (k:Int))]) (fun⟨k,y⟩ u=>k<=l.length/\y=qhg l k/\Sep w (fun _=>False) u []) (fun⟨k,y⟩=>l.length-k) (0,4294967295) rfl ?_ ?_
 ·exact⟨il _,rfl,h.take 0⟩
 intro q u v J A;obtain⟨k,y⟩:=q;obtain⟨hk,hy,h⟩:=v;refine ys<|yx 4<|yc (rL (k:Int) (l.length:Int)) (fun g=>?_) fun g=>?_
 ·have K:=g;have hv:=qpx hby (k:=k) (by omega);have r:=qkZ l k;have s:=qdD .xor (qhg l k) (l.getD k 0);refine yk<|ys<|qa<|yx 1<|qa<|qV [0,3,4,5] (f':=[(0,.slice (some ⟨b,0,none⟩) l.length cap),(3,.int .u32 y),(4,iX (k:Int)),(5,iX 0)])<|qx (σ:=Nat×Int) (fun⟨j,x⟩=>[(0,.slice (some ⟨b,0,none⟩) l.length cap),(3,.int .u32 x),(4,iX (k:Int)),(5,iX (j:Int))]) (fun⟨j,x⟩ u=>j<=8/\(0<=x/\x<=4294967295)/\(qkY (qe .xor .u32 (qhg l k) (l.getD k 0)) j).toNat=x.toNat^^^((l.getD k 0).toNat>>>j)/\Sep w (fun _=>False) u []) (fun⟨j,x⟩=>8-j) (0,y) rfl ?_ ?_
  ·exact⟨il _,(hy▸r),(by rw[hy];exact qqn r hv),h.take 0⟩
  intro q u B L t;obtain⟨j,x⟩:=q;obtain⟨hj,hx,f,h⟩:=B;refine ys<|yx 2<|yc (rL (j:Int) 8) (fun m=>?_) fun m=>?_
  ·have M:=m;have C:=qql s j;have d:=crc_step hx C f;refine yk<|ys<|qa<|ysr<|yp 12 [] (.i (k:Int) (l.length) (.l (o:=(0+((k:Int)).toNat*1)) (ql1 (h.rd hr) (by omega)) (.p (q:=0<=((j:Int):Int)) (by omega) .z)))<|ye<|ysr<|yp 3 [] (.p (q:=0<=(1:Int)) (by omega) .z)<|ye<|yx 2<|yc (rE (qe .xor .u32 (qe .and .u32 x 1) (IntKind.wrap .u32 (qe .and .u8 (Int.fdiv (l.getD k 0) (2^min ((j:Int):Int).toNat (IntKind.bits .u8))) 1))) 1) (fun n=>?_) fun n=>?_
   ·have D:=n;have E:((((qkY (qe .xor .u32 (qhg l k) (l.getD k 0)) j).toNat % 2:Nat)):Int)=1:=by rw[<-qqm hx hv (by omega) f];exact D
    have c:(qkY (qe .xor .u32 (qhg l k) (l.getD k 0)) j).toNat % 2=1:=by omega
    refine q7<|yq 3<|yE (nB (nS ?_));refine q7<|yp 3 [] (.q6 ((j:Int)+1) .z)<|yE (fun a ha=>t (j+1,(qe .xor .u32 (Int.fdiv x (2^min (1:Int).toNat (IntKind.bits .u32))) 3988292384)) _ ⟨by omega,⟨(d.1 c).1,(d.1 c).2.1⟩,(d.1 c).2.2,h.take 0⟩ (by show 8-(j+1)<8-j;omega) a (ha.kp [0,3,4,5]))
   have F:=n;have E:((((qkY (qe .xor .u32 (qhg l k) (l.getD k 0)) j).toNat % 2:Nat)):Int)≠1:=by rw[<-qqm hx hv (by omega) f];exact F
   have c:¬(qkY (qe .xor .u32 (qhg l k) (l.getD k 0)) j).toNat % 2=1:=by omega
   refine ql (nB (nS ?_));refine q7<|yp 3 [] (.q6 ((j:Int)+1) .z)<|yE (fun a ha=>t (j+1,(Int.fdiv x (2^min (1:Int).toNat (IntKind.bits .u32)))) _ ⟨by omega,⟨(d.2 c).1,(d.2 c).2.1⟩,(d.2 c).2.2,h.take 0⟩ (by show 8-(j+1)<8-j;omega) a (ha.kp [0,3,4,5]))
  have N:=m;have G:j=8:=by omega
  subst G;have H:x=qhg l (k+1):=by have hb:=qql s 8;rw[crc_zero hv]at f;show x=qkY (qe .xor .u32 (qhg l k) (l.getD k 0)) 8;omega
  refine qm (eS (qd (qb (nB (nS ?_)))));refine q7<|yp 3 [] (.q6 ((k:Int)+1) .z)<|yE (fun a ha=>A (k+1,x) _ ⟨by omega,H,h.take 0⟩ (by show l.length-(k+1)<l.length-k;omega) a (ha.kp [0,3,4]))
 have O:=g;have I:k=l.length:=by omega
 refine qm (eS (qd (qb (nS ?_))));refine yx 3<|q9 (yR1 (.int .u32 (qe .xor .u32 y 4294967295)) ?_);exact⟨by rw[hy,I];unfold qcd;rw[show qe .xor .u32 (qhg l l.length) 4294967295=qe .xor .u32 4294967295 (qhg l l.length) by rw[qfD (qkZ l _) (by decide),qfD (by decide) (qkZ l _),Nat.xor_comm]],h.ch⟩
theorem qnI (b n cap:Nat)(l:List Int)(w:World)(hr:Rd w (some ⟨b,0,none⟩) (u8s l))(hby:qaw l)(hn:l.length<=1000000000)(e:l.length=n):CP 71 [.slice (some ⟨b,0,none⟩) n cap].toArray w (RQ (.int .u32 (qcd l)) w):=by
 subst e;exact qqq b cap l w hr hby hn
theorem bytV_u8 (x:ByteArray):qeF x=u8s (qaT x):=by
 unfold qeF qaT u8s;rw[jE];rfl
theorem bytV_app (l:List Int)(x:ByteArray):u8s l++qeF x=u8s (l++qaT x):=by rw[qb4,bytV_u8]
theorem qcp (a0:Option Addr)(n0 c0:Nat)(xs:List Int)(sg:Int)(a:Option Addr)(m c:Nat)(l:List Int)(w:World)(hr0:Rd w a0 (u8s xs))(hl0:xs.length=n0)(hz0:a0=none->c0=0)(hr:Rd w a (u8s l))(hl:l.length=m)(hz:a=none->c=0)(hby:qaw l)(hsg:0<=sg/\sg<=255)(hb:n0+m+200<=1000000000):CP 33 [.slice a0 n0 c0,uX sg,.slice a m c].toArray w fun e w'=> ∃o' n' c',e= .returned (.slice (o'.map at0) n' c')/\Sep w (fun _=>False) w' [qan tU8 1 o' n' c' (u8s (xs++qQ sg l))]:=by
 have n:qaw (qU (sg::l)):=qj (qp (by rw[iy];omega)) (qgZ hsg hby);have A:=qG ((m:Int)+1).toNat;have B:=qpt (qU (sg::l));have h:=Sep.nil w;refine yA Tryz.func33 rfl<|yx 1<|ysr<|yp 3 [] (.q6 ((m:Int)+1) .z)<|yo (yC (qb6 none 0 0 ([]) (((m:Int)+1)) _ (Own.nil _ _ _) (by omega) (by omega)) ?_);rintro _ u ⟨C,d,D,rfl,f,E,o⟩;refine⟨_,rfl,?_⟩;rw[iO]at f;have h:=h.app0 f o;have F:(qw (((m:Int)+1)).toNat).length=d:=by have:=h.len1 0;rwa[hJ]at this
 refine yq 5<|yo (zB [uX sg] 5 1 h fun u r h=>?_);refine yo (zA (a2:=(some ⟨r,0,none⟩)) (ys:=u8s ([sg])) 0 1 1 1 (d+1) (u8s (qw (((m:Int)+1)).toNat++[sg])) h (Rd.all (h.b 1)) (qN _) (hz:=(qb4 _ _).symm) (hy:=rfl) (hn2:=(fun e=>by cases e)) fun u G H h I=>?_);have J:(qw (((m:Int)+1)).toNat++[sg]).length=(d+1):=by have:=h.len1 0;rwa[hJ]at this
 refine yq 8<|yo (zA (a2:=a) (ys:=u8s (l)) 0 1 m c ((d+1)+m) (u8s (qw (((m:Int)+1)).toNat++[sg]++l)) h (hr.ch h.ch fun _ _ h=>h) (qN _) (hz:=(qb4 _ _).symm) (hy:=(by rw[qaj];omega)) (hn2:=hz) fun u K g h L=>?_);have s:(qw (((m:Int)+1)).toNat++[sg]++l).length=((d+1)+m):=by have:=h.len1 0;rwa[hJ]at this
 have i:(qw (((m:Int)+1)).toNat++[sg]++l:List Int)=qU (sg::l):=by unfold qU;rw[iy,show(m:Int)+1=(((l.length+1:Nat)):Int) by omega,ik];simp
 rw[i]at h;have j:(qU (sg::l)).length=((d+1)+m):=by rw[<-i];exact s
 refine yz 10<|ysr<|yq 1 ?_;obtain⟨k,rfl⟩:=h.isO 0;refine yo (yQ (h.look (qnI k ((d+1)+m) g (qU (sg::l)) _ (h.brd 0) n (by omega) j)) fun u h=>?_);refine yz 3<|ysr<|yq 1<|yo (zA0 (a2:=a0) (m:=n0) (c2:=c0) (ys:=u8s (xs)) 5 1 1 h (hr0.ch h.ch fun _ _ h=>h) (qN _) (by rw[qaj];omega) hz0 fun u M N h O=>?_);have P:(xs).length=n0:=by have:=h.len1 2;rwa[hJ]at this
 refine yq 3<|yo (zA (a2:=(some ⟨k,0,none⟩)) (ys:=u8s (qU (sg::l))) 2 1 ((d+1)+m) g (n0+((d+1)+m)) (u8s (xs++qU (sg::l))) h (h.brd 0) (qN _) (hz:=(qb4 _ _).symm) (hy:=(by rw[qaj];have:=j;omega)) (hn2:=(fun e=>by cases e)) fun u Q R h S=>?_);have T:(xs++qU (sg::l)).length=(n0+((d+1)+m)):=by have:=h.len1 2;rwa[hJ]at this
 refine yp 15 [] (.p (q:=0<=(8:Int)) (by omega) (.p (q:=0<=(16:Int)) (by omega) (.p (q:=0<=(24:Int)) (by omega) .z)))<|yo (zB [uX (IntKind.wrap .u8 (qcd (qU (sg::l)))),uX (IntKind.wrap .u8 (Int.fdiv (qcd (qU (sg::l))) (2^min (8:Int).toNat (IntKind.bits .u32)))),uX (IntKind.wrap .u8 (Int.fdiv (qcd (qU (sg::l))) (2^min (16:Int).toNat (IntKind.bits .u32)))),uX (IntKind.wrap .u8 (Int.fdiv (qcd (qU (sg::l))) (2^min (24:Int).toNat (IntKind.bits .u32))))] 5 4 h fun u t h=>?_);refine yo (zA (a2:=(some ⟨t,0,none⟩)) (ys:=u8s ([(IntKind.wrap .u8 (qcd (qU (sg::l)))),(IntKind.wrap .u8 (Int.fdiv (qcd (qU (sg::l))) (2^min (8:Int).toNat (IntKind.bits .u32)))),(IntKind.wrap .u8 (Int.fdiv (qcd (qU (sg::l))) (2^min (16:Int).toNat (IntKind.bits .u32)))),(IntKind.wrap .u8 (Int.fdiv (qcd (qU (sg::l))) (2^min (24:Int).toNat (IntKind.bits .u32))))])) 2 1 4 4 ((n0+((d+1)+m))+4) (u8s (xs++qU (sg::l)++[(IntKind.wrap .u8 (qcd (qU (sg::l)))),(IntKind.wrap .u8 (Int.fdiv (qcd (qU (sg::l))) (2^min (8:Int).toNat (IntKind.bits .u32)))),(IntKind.wrap .u8 (Int.fdiv (qcd (qU (sg::l))) (2^min (16:Int).toNat (IntKind.bits .u32)))),(IntKind.wrap .u8 (Int.fdiv (qcd (qU (sg::l))) (2^min (24:Int).toNat (IntKind.bits .u32))))])) h (Rd.all (h.b 3)) (qN _) (hz:=(qb4 _ _).symm) (hy:=rfl) (hn2:=(fun e=>by cases e)) fun u v x h U=>?_);have V:(xs++qU (sg::l)++[(IntKind.wrap .u8 (qcd (qU (sg::l)))),(IntKind.wrap .u8 (Int.fdiv (qcd (qU (sg::l))) (2^min (8:Int).toNat (IntKind.bits .u32)))),(IntKind.wrap .u8 (Int.fdiv (qcd (qU (sg::l))) (2^min (16:Int).toNat (IntKind.bits .u32)))),(IntKind.wrap .u8 (Int.fdiv (qcd (qU (sg::l))) (2^min (24:Int).toNat (IntKind.bits .u32))))]).length=((n0+((d+1)+m))+4):=by have:=h.len1 2;rwa[hJ]at this
 refine yz 18<|q9 (yR1 (.slice (v.map at0) ((n0+((d+1)+m))+4) x) ?_);have y:(xs++qU (sg::l)++[(IntKind.wrap .u8 (qcd (qU (sg::l)))),(IntKind.wrap .u8 (Int.fdiv (qcd (qU (sg::l))) (2^min (8:Int).toNat (IntKind.bits .u32)))),(IntKind.wrap .u8 (Int.fdiv (qcd (qU (sg::l))) (2^min (16:Int).toNat (IntKind.bits .u32)))),(IntKind.wrap .u8 (Int.fdiv (qcd (qU (sg::l))) (2^min (24:Int).toNat (IntKind.bits .u32))))]:List Int)=xs++qQ sg l:=by unfold qQ qac;simp only[ie];rfl
 rw[y]at h;exact⟨_,_,_,rfl,(h.ord [2]).eqv⟩
theorem qlh (fr t k W H:Int)(d:ByteArray)(w:World)(hB:evB ⟨t,k,d,W,H⟩=true)(h0:0<=fr/\fr<=t):CP 38 [iX fr,.agg #[iX t,iX k,.string d,iX W,iX H]].toArray w fun e w'=> ∃o' n' c',e= .returned (.slice (o'.map at0) n' c')/\Sep w (fun _=>False) w' [qan tU8 1 o' n' c' (u8s (evI fr ⟨t,k,d,W,H⟩))]:=by
 obtain⟨⟨r,s⟩,v⟩:=qfR hB;dsimp only at r s v;have a4:0<=k/\k<=3:=by omega
 have a5:0<=W/\0<=H:=by omega
 have a6:=qG k.toNat;have a7:=qG (t-fr).toNat;have a8:=qG W.toNat;have a9:=qG (d.size:Int).toNat;have h:=Sep.nil w;refine yA Tryz.func38 rfl<|ysr<|yo (zN [iX t,iX k,.string d,iX W,iX H] 66 h fun u aa h=>?_);refine yz 2<|ys<|zDC [7] [0] h fun u h=>ydF [0,1,3,4,5,6] [] h.on (fun u h=>(.l (h.c 0 1) (.l (h.c 0 0) (.q6 (t-fr) .z))))<|yH 2 (yC (qb6 none 0 0 ([]) (k) _ (Own.nil _ _ _) (by omega) (by omega)) ?_);rintro _ u ⟨x,i,y,rfl,j,ab,A⟩;refine⟨_,rfl,?_⟩;rw[iO]at j;have h:=h.app0 j A;have ac:(qw (k).toNat).length=i:=by have:=h.len1 1;rwa[hJ]at this
 refine zHa h<|yK 7 (yC (qb6 x i y (qw (k).toNat) ((t-fr)) _ (h.own 1) (by omega) (by omega)) ?_);rintro _ u ⟨m,b,n,rfl,B,ad,C⟩;refine⟨_,rfl,?_⟩;have h:=h.appI 1 B C;have D:(qw (k).toNat++qw ((t-fr)).toNat).length=b:=by have:=h.len1 1;rwa[hJ]at this
 have E:=D;simp only[hZ]at E;refine q8<|yd [8] [] .z<|yDe (nS ?_);refine ys<|ysr<|yp 3 [] (.l (h.c 0 1) .z)<|ye<|yc (rE k 2) (fun f=>?_) fun f=>?_
 ·have F:=f;refine ys<|zDC [6] [0] h fun u h=>ydF [0,1,2,4,5] [] h.on (fun u h=>(.l (h.c 0 3) (.l (h.c 0 4) .z)))<|yH 3 (yC (qb6 m b n (qw (k).toNat++qw ((t-fr)).toNat) (W) _ (h.own 1) (by omega) (by omega)) ?_);rintro _ u ⟨G,o,I,rfl,J,ae,K⟩;refine⟨_,rfl,?_⟩;have h:=h.appI 1 J K;have L:(qw (k).toNat++qw ((t-fr)).toNat++qw (W).toNat).length=o:=by have:=h.len1 1;rwa[hJ]at this
  have M:=L;simp only[hZ]at M;refine zHs h<|yK 6 (yC (qb6 G o I (qw (k).toNat++qw ((t-fr)).toNat++qw (W).toNat) (H) _ (h.own 1) (by omega) (by omega)) ?_);rintro _ u ⟨N,p,O,rfl,P,af,Q⟩;refine⟨_,rfl,?_⟩;have h:=h.appI 1 P Q;have R:(qw (k).toNat++qw ((t-fr)).toNat++qw (W).toNat++qw (H).toNat).length=p:=by have:=h.len1 1;rwa[hJ]at this
  have S:=R;simp only[hZ]at S;refine q8<|yd [7] [] .z<|yDe (nS ?_);refine q9 (rS (yR1 (.slice (N.map at0) p O) ?_));have g:(qw (k).toNat++qw ((t-fr)).toNat++qw (W).toNat++qw (H).toNat:List Int)=evI fr ⟨t,k,d,W,H⟩:=by unfold evI;dsimp only;rw[if_pos F];simp only[ie]
  rw[g]at h;exact⟨_,_,_,rfl,(h.ord [1]).eqv⟩
 have T:=f;refine yk<|ys<|zDC [7] [0] h fun u h=>ydF [0,1,2,3,5,6] [] h.on (fun u h=>(.l (h.c 0 2) (.l (h.c 0 2) .z)))<|yH 4 (yC (qb6 m b n (qw (k).toNat++qw ((t-fr)).toNat) (((d).size:Int)) _ (h.own 1) (by omega) (by omega)) ?_);rintro _ u ⟨U,a,V,rfl,X,ag,Y⟩;refine⟨_,rfl,?_⟩;have h:=h.appI 1 X Y;have Z:(qw (k).toNat++qw ((t-fr)).toNat++qw (((d).size:Int)).toNat).length=a:=by have:=h.len1 1;rwa[hJ]at this
 have a0:=Z;simp only[hZ]at a0;refine zHs h ?_;refine yK 7 (e_appS 5 U a V (u8s (qw (k).toNat++qw ((t-fr)).toNat++qw (((d).size:Int)).toNat)) d (some 31) (a+(d).size) rfl (by kernel_rfl) (h.own 1) (by constructor<;>first|omega|(simp only[maxLen];omega)) ?_);intro u a1 a2 q a3;rw[bytV_app]at q;have h:=h.appI 1 q a3;have ah:(qw (k).toNat++qw ((t-fr)).toNat++qw (((d).size:Int)).toNat++qaT d).length=(a+(d).size):=by have:=h.len1 1;rwa[hJ]at this
 refine q8<|yd [8] [] .z<|yDe (nS ?_);refine q9 (yR1 (.slice (a1.map at0) (a+(d).size) a2) ?_);have g:(qw (k).toNat++qw ((t-fr)).toNat++qw (((d).size:Int)).toNat++qaT d:List Int)=evI fr ⟨t,k,d,W,H⟩:=by unfold evI;dsimp only;rw[if_neg T];unfold qbr;rw[ik];simp only[ie]
 rw[g]at h;exact⟨_,_,_,rfl,(h.ord [1]).eqv⟩
theorem qqr {w:World}{b o:Nat}{kx:Nat->Option Addr×Nat×Nat}{l:List Ky}(h:Rd w (some ⟨b,o,none⟩) (qaP kx l 0))(x:Int)(i:Nat)(hx:x.toNat=i)(hi:i<l.length):w.cell? ⟨b,o+x.toNat*2,none⟩=some (iX (gky l i).after)/\w.cell? ⟨b,o+x.toNat*2+1,none⟩=some (.slice (kx i).1 (kx i).2.1 (kx i).2.2):=by
 obtain⟨e,a⟩:=qf1 kx l 0 i hi;rw[iJ]at a;have c:=h.2 ⟨b,o,none⟩ rfl _ _ e;have d:=h.2 ⟨b,o,none⟩ rfl _ _ a;rw[qaY]at c d;rw[hx];exact⟨c,d⟩
theorem qkr {T0:TS}{r:Rc}(a0:Option Addr)(n0 c0:Nat)(ea:Option Addr)(ec:Nat)(ka:Option Addr)(kc:Nat)(kx:Nat->Option Addr×Nat×Nat)(wh:Bool)(w:World)(hs:Rd w a0 (u8s r.start))(hsl:r.start.length=n0)(hsz:a0=none->c0=0)(he:Rd w ea (evsV r.evs))(hez:r.evs.length=0\/ ∃b off,ea=some ⟨b,off,none⟩)(hk:Rd w ka (qaP kx r.keys 0))(hkz:r.keys.length=0\/ ∃b off,ka=some ⟨b,off,none⟩)(hkr:∀i,i<r.keys.length->Rd w (kx i).1 (u8s (gky r.keys i).state)/\(gky r.keys i).state.length=(kx i).2.1/\((kx i).1=none->(kx i).2.2=0))(hOk:RcOk T0 r)(hW:RcB r)(hen:r.evs.length<=1800000/\r.keys.length<=1800000):CP 54 [.slice a0 n0 c0,.slice ea r.evs.length ec,.slice ka r.keys.length kc,.bool wh].toArray w fun e w'=> ∃o' n' c',e= .returned (.slice (o'.map at0) n' c')/\Sep w (fun _=>False) w' [qan tU8 1 o' n' c' (u8s (qam r wh))]:=by
 have bo:=hW.st.2;have h:=Sep.nil w;refine yA Tryz.func54 rfl<|yx 1<|ysr<|yq 1<|yo (yC (qcp none 0 0 ([]) 83 a0 n0 c0 (r.start) _ (Rd.nil _ _) rfl (fun _=>rfl) (hs.ch h.ch fun _ _ h=>h) hsl hsz hW.st.1 (by decide) (by omega)) ?_);rintro _ u ⟨Q,G,R,rfl,ai⟩;refine⟨_,rfl,?_⟩;have h:=h.join ai;rw[iO]at h;have bp:=qa1 83 (r.start);have bq:(qQ 83 (r.start)).length=G:=by have:=h.len1 0;rwa[hJ]at this
 refine yz 3<|yx 1<|yx 2<|ys<|yx 1<|qa ?_;have h:=(h.ord [0]).own0 tU8 1;refine qV [1,2,3,9,10,11,12,13] (f':=[(1,.slice ea r.evs.length ec),(2,.slice ka r.keys.length kc),(3,.bool wh),(9,.slice (Q.map at0) G R),(10,nX),(11,iX 0),(12,iX 0),(13,iX 0)])<|qx (σ:=Nat×Int×Int×Option Nat×Nat×Nat×Option Nat×Nat×Nat) (fun⟨i,fr,kk,o,n,c,p,m,q⟩=>[(1,.slice ea r.evs.length ec),(2,.slice ka r.keys.length kc),(3,.bool wh),(9,.slice (o.map at0) n c),(10,.slice (p.map at0) m q),(11,iX fr),(12,iX kk),(13,iX ((i:Nat):Int))]) (fun⟨i,fr,kk,o,n,c,p,m,q⟩ u=>i<=r.evs.length+1/\(i<=r.evs.length->fr=qW r.evs i)/\kk=(((qk r i).k:Nat):Int)/\Sep w (fun _=>False) u [qan tU8 1 o n c (u8s (qk r i).out),qan tU8 1 p m q (u8s (qf9 r (qk r i).pos (qk r i).k))]) (fun⟨i,fr,kk,o,n,c,p,m,q⟩=>r.evs.length+1-i) (0,0,0,Q,G,R,none,0,0) rfl ?_ ?_
 ·exact⟨il _,(fun _=>rfl),rfl,h.take 2⟩
 intro q0 u ak br S;obtain⟨i,fr,kk,o,n,c,p,m,q⟩:=q0;obtain⟨hi,B,T,h⟩:=ak;have al:((qk r i).out).length=n:=by have:=h.len1 0;rwa[hJ]at this
 have am:((qf9 r (qk r i).pos (qk r i).k)).length=m:=by have:=h.len1 1;rwa[hJ]at this
 have bs:=qqp hW i 0;refine ys<|yx 4<|yc (rM ((i:Nat):Int) (r.evs.length:Int)) (fun H=>?_) fun H=>?_
 ·have bt:=H;refine yk<|ys<|qa<|ys<|yx 3<|qa ?_;have h:=h.ord [0,1];have h:=h.eqv (m:=[qan tU8 1 o n c (u8s (qfd r i 0).out),qan tU8 1 p m q (u8s (qiR r i 0))]) (e:=by unfold qiR;rw[qmx];rfl);refine qV [1,2,3,9,10,11,12,13,25,26,27] (f':=[(1,.slice ea r.evs.length ec),(2,.slice ka r.keys.length kc),(3,.bool wh),(9,.slice (o.map at0) n c),(10,.slice (p.map at0) m q),(11,iX fr),(12,iX kk),(13,iX ((i:Nat):Int)),(25,.slice ka r.keys.length kc),(26,iX (r.keys.length:Int)),(27,iX 0)])<|qx (σ:=Nat×Int×Option Nat×Nat×Nat×Option Nat×Nat×Nat) (fun⟨j,kj,t,d,v,s,g,f⟩=>[(1,.slice ea r.evs.length ec),(2,.slice ka r.keys.length kc),(3,.bool wh),(9,.slice (t.map at0) d v),(10,.slice (s.map at0) g f),(11,iX fr),(12,iX kj),(13,iX ((i:Nat):Int)),(25,.slice ka r.keys.length kc),(26,iX (r.keys.length:Int)),(27,iX (j:Int))]) (fun⟨j,kj,t,d,v,s,g,f⟩ u=>j<=r.keys.length/\kj=(((qfd r i j).k:Nat):Int)/\Sep w (fun _=>False) u [qan tU8 1 t d v (u8s (qfd r i j).out),qan tU8 1 s g f (u8s (qiR r i j))]) (fun⟨j,kj,t,d,v,s,g,f⟩=>r.keys.length-j) (0,kk,o,n,c,p,m,q) rfl ?_ ?_
  ·exact⟨il _,by rw[qmx];exact T,h.take 2⟩
  intro f u an bu U;obtain⟨j,kj,t,d,v,s,g,f⟩:=f;obtain⟨hj,C,h⟩:=an;have D:((qfd r i j).out).length=d:=by have:=h.len1 0;rwa[hJ]at this
  have ao:((qiR r i j)).length=g:=by have:=h.len1 1;rwa[hJ]at this
  have ap:=qqp hW i j;have bv:=mid_k hOk (i:=i) (by omega) j;have V:=qmy r (qfd r i j).pos (qfd r i j).k;have bw:(qiR r i j).length<=30*(qfd r i j).k+10:=V;refine yx 1<|ys<|yc (rL (j:Int) (r.keys.length:Int)) (fun I=>?_) fun I=>?_
  ·have bx:=I;obtain⟨kb,ko,rfl⟩:=hkz.resolve_left (by omega);have aq:=hW.ks j (by omega);obtain⟨ar,bz,au⟩:=hkr j (by omega);refine yk<|ys<|qa<|ysr<|yp 2 [] (.i (j:Int) (r.keys.length) (.m (qqr (hk.ch h.ch fun _ _ h=>h) ((j:Int)) j (by omega) (by omega)).1 (.m (qqr (hk.ch h.ch fun _ _ h=>h) ((j:Int)) j (by omega) (by omega)).2 (.e .z))))<|yo (zN [iX 0,nX] 107 h fun u bA h=>?_);refine yo (zs h 2 fun u h=>?_);refine ye<|ysr<|yp 4 [] (.l (h.c 2 0) .z)<|ye<|yc (rE (((gky r.keys j).after:Nat):Int) ((i:Nat):Int)) (fun J=>?_) fun J=>?_
   ·have bB:=J;have W:(gky r.keys j).after=i:=by omega
    have hY:=qqo hOk (i:=i) (j:=j) (by omega) (by omega) W;have av:(((qk r i).out.length:Nat))=d:=by rw[<-hY.2.1];exact D
    have aw:=hW.tm (n:=i) (by omega);rw[<-B (by omega)]at aw;have ax:=qG (((i:Nat):Int)).toNat;have bC:=qG fr.toNat;have bD:=qG ((d:Int)).toNat;have bE:=qG ((((gky r.keys j).after:Nat):Int)).toNat;refine ysr<|yq 2<|yo (yC (qb6 s g f ((qiR r i j)) (((i:Nat):Int)) _ (h.own 1) (by omega) (by omega)) ?_);rintro _ u ⟨ay,X,az,rfl,aA,bF,aB⟩;refine⟨_,rfl,?_⟩;have h:=h.appI 1 aA aB;have aC:((qiR r i j)++qw (((i:Nat):Int)).toNat).length=X:=by have:=h.len1 1;rwa[hJ]at this
    have aD:=aC;simp only[hZ]at aD;refine yq 4<|yo (yC (qb6 ay X az ((qiR r i j)++qw (((i:Nat):Int)).toNat) (fr) _ (h.own 1) (by omega) (by omega)) ?_);rintro _ u ⟨aE,Y,aF,rfl,aG,bG,aH⟩;refine⟨_,rfl,?_⟩;have h:=h.appI 1 aG aH;have aI:((qiR r i j)++qw (((i:Nat):Int)).toNat++qw (fr).toNat).length=Y:=by have:=h.len1 1;rwa[hJ]at this
    have aJ:=aI;simp only[hZ]at aJ;refine yq 7<|yo (yC (qb6 aE Y aF ((qiR r i j)++qw (((i:Nat):Int)).toNat++qw (fr).toNat) ((d:Int)) _ (h.own 1) (by omega) (by omega)) ?_);rintro _ u ⟨Z,K,a1,rfl,aK,bH,aL⟩;refine⟨_,rfl,?_⟩;have h:=h.appI 1 aK aL;have aM:((qiR r i j)++qw (((i:Nat):Int)).toNat++qw (fr).toNat++qw ((d:Int)).toNat).length=K:=by have:=h.len1 1;rwa[hJ]at this
    have aN:=aM;simp only[hZ]at aN;refine yz 9<|ysr<|yp 3 [] (.q6 (kj+1) .z)<|ye<|zDC [6,7] [0,1,2] h fun u h=>ydF [0,1,2,4,5] [] h.on (fun u h=>(.l (h.c 2 0) (.l (h.c 2 1) .z)))<|yH 3 (yC (qb6 none 0 0 ([]) ((((gky r.keys j).after:Nat):Int)) _ (Own.nil _ _ _) (by omega) (by omega)) ?_);rintro _ u ⟨bI,E,bJ,rfl,a3,bK,aO⟩;refine⟨_,rfl,?_⟩;rw[iO]at a3;have h:=h.app0 a3 aO;have bL:(qw ((((gky r.keys j).after:Nat):Int)).toNat).length=E:=by have:=h.len1 3;rwa[hJ]at this
    refine zHa h<|yK 6 (zA (a2:=(kx j).1) (ys:=u8s ((gky r.keys j).state)) 3 1 (kx j).2.1 (kx j).2.2 (E+(kx j).2.1) (u8s (qw ((((gky r.keys j).after:Nat):Int)).toNat++(gky r.keys j).state)) h (ar.ch h.ch fun _ _ h=>h) (qN _) (hz:=(qb4 _ _).symm) (hy:=(by rw[qaj];omega)) (hn2:=au) fun u aP aQ h bM=>?_);have a4:(qw ((((gky r.keys j).after:Nat):Int)).toNat++(gky r.keys j).state).length=(E+(kx j).2.1):=by have:=h.len1 3;rwa[hJ]at this
    refine q8 ?_;have aR:=a4;simp only[hZ]at aR;refine yK 7 (yC (qcp (t.map at0) d v ((qfd r i j).out) 75 (aP.map at0) (E+(kx j).2.1) aQ (qw ((((gky r.keys j).after:Nat):Int)).toNat++(gky r.keys j).state) _ (h.ownRd' 0) D (h.own 0).nz (h.ownRd' 3) a4 (h.own 3).nz (qj (qp (by omega)) aq.1) (by decide) (by omega)) ?_);rintro _ u ⟨a5,L,a6,rfl,aS⟩;refine⟨_,rfl,?_⟩;have h:=h.join aS;have aT:=qa1 75 (qw ((((gky r.keys j).after:Nat):Int)).toNat++(gky r.keys j).state);simp only[hZ]at aT;have bN:((qfd r i j).out++qQ 75 (qw ((((gky r.keys j).after:Nat):Int)).toNat++(gky r.keys j).state)).length=L:=by have:=h.len1 4;rwa[hJ]at this
    refine q8<|yd [8] [] .z<|yDe (nB (nS ?_));refine q7<|yp 2 [] (.q6 ((j:Int)+1) .z) ?_;have h:=h.nrm 2 [iX (((gky r.keys j).after:Nat):Int),.slice (kx j).1 (kx j).2.1 (kx j).2.2];have aU:=mid_j hOk (i:=i) (j:=j) (by omega) (by omega) W;have h:=h.ord [4,1];have h:=h.eqv (m:=[qan tU8 1 a5 L a6 (u8s (qfd r i (j+1)).out),qan tU8 1 Z K a1 (u8s (qiR r i (j+1)))]) (e:=by rw[aU,hY.2.2,hY.2.1,B (by omega)];simp only[ik,ie,av];rfl);refine yE (fun a ha=>U (j+1,(kj+1),a5,L,a6,Z,K,a1) _ ⟨by omega,by have aV:=C;rw[hY.2.1,hY.1]at aV;rw[hY.2.2];dsimp only;omega,h.take 2⟩ (by show r.keys.length-(j+1)<r.keys.length-j;omega) a (ha.kp [1,2,3,9,10,11,12,13,25,26,27]))
   have bO:=J;have aW:¬(gky r.keys j).after=i:=by omega
   refine ql (nB (nS ?_));refine q7<|yp 2 [] (.q6 ((j:Int)+1) .z) ?_;have h:=h.nrm 2 [iX (((gky r.keys j).after:Nat):Int),.slice (kx j).1 (kx j).2.1 (kx j).2.2];have a7:=mid_no hOk (i:=i) (j:=j) (by omega) (by omega) aW;have h:=h.ord [0,1];have h:=h.eqv (m:=[qan tU8 1 t d v (u8s (qfd r i (j+1)).out),qan tU8 1 s g f (u8s (qiR r i (j+1)))]) (e:=by unfold qiR;rw[a7];rfl);refine yE (fun a ha=>U (j+1,kj,t,d,v,s,g,f) _ ⟨by omega,by rw[a7];exact C,h.take 2⟩ (by show r.keys.length-(j+1)<r.keys.length-j;omega) a (ha.kp [1,2,3,9,10,11,12,13,25,26,27]))
  have bP:=I;obtain rfl:j=r.keys.length:=by omega
  unfold qiR at h;rw[qlg hOk (by omega)]at h C ap;have a8:=C;rw[qlg hOk (by omega)]at D;rw[show qiR r i r.keys.length=qf9 r (qfd r i r.keys.length).pos (qfd r i r.keys.length).k from rfl,qlg hOk (by omega)]at ao;refine qm (eS (qd (qb (nS ?_))));refine yx 4<|yc (rL ((i:Nat):Int) (r.evs.length:Int)) (fun M=>?_) fun M=>?_
  ·have bQ:=M;obtain⟨eb,eo,rfl⟩:=hez.resolve_left (by omega);have y:=hW.ev i (by omega);rw[<-B (by omega)]at y;have bR:=qdE (fr:=fr) y.1;refine ysr<|yp 6 [] (.i ((i:Nat):Int) (r.evs.length) (.m (qaB (he.ch h.ch fun _ _ h=>h) (((i:Nat):Int)) i 0 _) (.m (qaB (he.ch h.ch fun _ _ h=>h) (((i:Nat):Int)) i 1 _) (.m (qaB (he.ch h.ch fun _ _ h=>h) (((i:Nat):Int)) i 2 _) (.m (qaB (he.ch h.ch fun _ _ h=>h) (((i:Nat):Int)) i 3 _) (.m (qaB (he.ch h.ch fun _ _ h=>h) (((i:Nat):Int)) i 4 _) (.e .z)))))))<|yo (yC (qlh fr (ge r.evs i).time (ge r.evs i).kind (ge r.evs i).w (ge r.evs i).h (ge r.evs i).data _ y.1 ⟨y.2.1,y.2.2⟩) ?_);rintro _ u ⟨aX,a9,aY,rfl,aZ⟩;refine⟨_,rfl,?_⟩;have h:=h.join aZ;have b0:(evI fr (ge r.evs i)).length=a9:=by have:=h.len1 2;rwa[hJ]at this
   refine yo (yC (qcp (t.map at0) d v ((qc2 r i (qk r i)).out) 69 (aX.map at0) a9 aY (evI fr (ge r.evs i)) _ (h.ownRd' 0) D (h.own 0).nz (h.ownRd' 2) b0 (h.own 2).nz (qdV y.1 y.2.1) (by decide) (by omega)) ?_);rintro _ u ⟨aa,N,ab,rfl,b1⟩;refine⟨_,rfl,?_⟩;have h:=h.join b1;have bS:=qa1 69 (evI fr (ge r.evs i));have bT:((qc2 r i (qk r i)).out++qQ 69 (evI fr (ge r.evs i))).length=N:=by have:=h.len1 3;rwa[hJ]at this
   refine yz 9<|q7<|yp 6 [] (.i ((i:Nat):Int) (r.evs.length) (.l (qaB (he.ch h.ch fun _ _ h=>h) (((i:Nat):Int)) i 0 _) .z))<|yE (nB (nS ?_));refine q7<|yp 3 [] (.q6 (((i:Nat):Int)+1) .z) ?_;have A:qk r (i+1)=⟨(qc2 r i (qk r i)).out++qQ 69 (evI (qW r.evs i) (ge r.evs i)),(qc2 r i (qk r i)).pos,(qc2 r i (qk r i)).k⟩:=if_pos (by omega);rw[<-B (by omega)]at A;have h:=h.ord [3,1];have h:=h.eqv (m:=[qan tU8 1 aa N ab (u8s (qk r (i+1)).out),qan tU8 1 s g f (u8s (qf9 r (qk r (i+1)).pos (qk r (i+1)).k))]) (e:=by rw[A];rfl);refine yE (fun a ha=>S (i+1,(ge r.evs i).time,kj,aa,N,ab,s,g,f) _ ⟨by omega,(fun b2=>by rw[ev_time]),by rw[A];exact a8,h.take 2⟩ (by show r.evs.length+1-(i+1)<r.evs.length+1-i;omega) a (ha.kp [1,2,3,9,10,11,12,13]))
  have bU:=M;refine ql (nB (nS ?_));refine q7<|yp 3 [] (.q6 (((i:Nat):Int)+1) .z) ?_;have A:qk r (i+1)=(qc2 r i (qk r i)):=if_neg (by omega);have h:=h.ord [0,1];have h:=h.eqv (m:=[qan tU8 1 t d v (u8s (qk r (i+1)).out),qan tU8 1 s g f (u8s (qf9 r (qk r (i+1)).pos (qk r (i+1)).k))]) (e:=by rw[A];rfl);refine yE (fun a ha=>S (i+1,fr,kj,t,d,v,s,g,f) _ ⟨by omega,(fun b2=>by omega),by rw[A];exact a8,h.take 2⟩ (by show r.evs.length+1-(i+1)<r.evs.length+1-i;omega) a (ha.kp [1,2,3,9,10,11,12,13]))
 have bV:=H;obtain rfl:i=r.evs.length+1:=by omega
 have b3:=qgg hOk (i:=r.evs.length+1) (iG _);have V:=qmy r (qo r).pos (qo r).k;have ax:=qG kk.toNat;have bW:(qo r).k<=r.keys.length:=b3.1;have b4:kk=(((qo r).k:Nat):Int):=T;have b5:kk.toNat=(qo r).k:=by omega
 have ac:((qo r).out).length=n:=al;have b6:((qf9 r (qo r).pos (qo r).k)).length=m:=am;refine qm (eS (qd (qb (nS ?_))));refine ys<|yx 2<|yc (rN (rY wh)) (fun O=>?_) fun O=>?_
 ·have b7:=O;obtain rfl:wh=false:=b7;refine yx 2<|q9 (rS (yR1 (.slice (o.map at0) n c) ?_));have P:((qo r).out:List Int)=qam r false:=(if_neg jQ).symm;rw[P]at h;exact⟨_,_,_,rfl,(h.ord [0]).eqv⟩
 have b8:=O;obtain rfl:wh=true:=b8;refine yk<|yx 3<|ysr<|yq 2<|yo (yC (qb6 none 0 0 ([]) (kk) _ (Own.nil _ _ _) (by omega) (by omega)) ?_);rintro _ u ⟨bX,F,bY,rfl,ad,bZ,b9⟩;refine⟨_,rfl,?_⟩;rw[iO]at ad;have h:=h.app0 ad b9;have c2:(qw (kk).toNat).length=F:=by have:=h.len1 2;rwa[hJ]at this
 refine yq 4<|yo (zA (a2:=(p.map at0)) (ys:=u8s ((qf9 r (qo r).pos (qo r).k))) 2 1 m q (F+m) (u8s (qw (kk).toNat++(qf9 r (qo r).pos (qo r).k))) h (h.ownRd' 1) (qN _) (hz:=(qb4 _ _).symm) (hy:=(by rw[qaj];have:=b6;omega)) (hn2:=(h.own 1).nz) fun u ba bb h c3=>?_);have ae:(qw (kk).toNat++(qf9 r (qo r).pos (qo r).k)).length=(F+m):=by have:=h.len1 2;rwa[hJ]at this
 have bc:qaw (qw kk.toNat++qf9 r (qo r).pos (qo r).k):=by rw[b5];exact qnH hW (by omega)
 have bd:=ae;simp only[hZ]at bd;refine yo (yC (qcp (o.map at0) n c ((qo r).out) 73 (ba.map at0) (F+m) bb (qw (kk).toNat++(qf9 r (qo r).pos (qo r).k)) _ (h.ownRd' 0) ac (h.own 0).nz (h.ownRd' 2) ae (h.own 2).nz bc (by decide) (by omega)) ?_);rintro _ u ⟨bf,af,bg,rfl,bh⟩;refine⟨_,rfl,?_⟩;have h:=h.join bh;have bi:=qa1 73 (qw (kk).toNat++(qf9 r (qo r).pos (qo r).k));simp only[hZ]at bi;have ag:((qo r).out++qQ 73 (qw (kk).toNat++(qf9 r (qo r).pos (qo r).k))).length=af:=by have:=h.len1 3;rwa[hJ]at this
 refine yz 7<|ysr ?_;refine yp 12 [] (.p (q:=0<=((n:Int):Int)/\0<(256:Int)) (by constructor<;>omega) (.q6 ((n:Int)/256) (.p (q:=0<=((n:Int):Int)/\0<(65536:Int)) (by constructor<;>omega) (.q6 ((n:Int)/65536) (.p (q:=0<=((n:Int):Int)/\0<(16777216:Int)) (by constructor<;>omega) (.q6 ((n:Int)/16777216) .z)))))) ?_;refine yo (zB [uX (IntKind.wrap .u8 (n:Int)),uX (IntKind.wrap .u8 ((n:Int)/256)),uX (IntKind.wrap .u8 ((n:Int)/65536)),uX (IntKind.wrap .u8 ((n:Int)/16777216))] 5 4 h fun u bj h=>?_);have bk:=ag;simp only[hZ]at bk;refine yo (yC (qcp (bf.map at0) af bg ((qo r).out++qQ 73 (qw (kk).toNat++(qf9 r (qo r).pos (qo r).k))) 70 (some ⟨bj,0,none⟩) 4 4 ([(IntKind.wrap .u8 (n:Int)),(IntKind.wrap .u8 ((n:Int)/256)),(IntKind.wrap .u8 ((n:Int)/65536)),(IntKind.wrap .u8 ((n:Int)/16777216))]) _ (h.ownRd' 3) ag (h.own 3).nz (Rd.all (h.b 4)) rfl (fun e=>by cases e) (fun x hx=>by simp only[j8,jf,or_false]at hx;rcases hx with rfl|rfl|rfl|rfl<;>exact qg9 _) (by decide) (by omega)) ?_);rintro _ u ⟨bl,ah,bm,rfl,bn⟩;refine⟨_,rfl,?_⟩;have h:=h.join bn;have c4:=qa1 70 ([(IntKind.wrap .u8 (n:Int)),(IntKind.wrap .u8 ((n:Int)/256)),(IntKind.wrap .u8 ((n:Int)/65536)),(IntKind.wrap .u8 ((n:Int)/16777216))])
 have c5:((qo r).out++qQ 73 (qw (kk).toNat++(qf9 r (qo r).pos (qo r).k))++qQ 70 ([(IntKind.wrap .u8 (n:Int)),(IntKind.wrap .u8 ((n:Int)/256)),(IntKind.wrap .u8 ((n:Int)/65536)),(IntKind.wrap .u8 ((n:Int)/16777216))])).length=ah:=by have:=h.len1 5;rwa[hJ]at this
 refine yz 15<|q9 (yR1 (.slice (bl.map at0) ah bm) ?_);have P:((qo r).out++qQ 73 (qw (kk).toNat++(qf9 r (qo r).pos (qo r).k))++qQ 70 ([(IntKind.wrap .u8 (n:Int)),(IntKind.wrap .u8 ((n:Int)/256)),(IntKind.wrap .u8 ((n:Int)/65536)),(IntKind.wrap .u8 ((n:Int)/16777216))]):List Int)=qam r true:=by unfold qam;rw[if_pos rfl,idx_all,qiS,qiS,qiS,b4,ik,<-ac,ie];rfl
 rw[P]at h;exact⟨_,_,_,rfl,(h.ord [5]).eqv⟩
theorem qqs {kx:Nat->Option Addr×Nat×Nat}{l:List Ky}{k:Nat}(h:k<l.length):qaP kx (l.take k) 0++[iX (((gky l k).after:Nat):Int),.slice (kx k).1 (kx k).2.1 (kx k).2.2]=qaP kx (l.take (k+1)) 0:=by
 rw[qmh h,qgV,iJ,im,jA (by omega)]
theorem Own.kz {w:World}{e:TypeId}{o:Option Nat}{n c:Nat}{x:List Value}(h:Own w e 2 o n c x):n=0\/ ∃b off,o.map at0=some ⟨b,off,none⟩:=by
 cases o with
 |none=>exact .inl (h.2.2.2.1 rfl).1
 |some q=>exact .inr ⟨q,0,rfl⟩
theorem qbW (b1:Nat){sa1:Option Addr}{sn1 sc1:Nat}{eo1:Option Nat}{ec1:Nat}{ko1:Option Nat}{kc1:Nat}{kx1:Nat->Option Addr×Nat×Nat}{r1:Rc}{T0:TS}(wh:Bool)(w:World)(hR1:RcRd w b1 sa1 sn1 sc1 eo1 ec1 ko1 kc1 kx1 r1)(hOk:RcOk T0 r1)(hW:RcB r1)(hen:r1.evs.length<=1800000/\r1.keys.length<=1800000):CP 26 [pX b1,.bool wh].toArray w fun e w'=> ∃o' n' c',e= .returned (.slice (o'.map at0) n' c')/\Sep w (fun _=>False) w' [qan tU8 1 o' n' c' (u8s (qam r1 wh))]:=by
 have h:=Sep.nil w;refine yA Tryz.func26 rfl<|yx 1<|yx 1<|ys<|ysr<|yp 6 [] (.l (hR1.ch h.ch).c2 .z)<|ye<|qa<|qV [0,1,5,11,12,13] (f':=[(0,pX b1),(1,.bool wh),(5,nX),(11,.slice (ko1.map at0) r1.keys.length kc1),(12,iX (r1.keys.length:Int)),(13,iX 0)])<|qx (σ:=Nat×Option Nat×Nat) (fun⟨k,o,c⟩=>[(0,pX b1),(1,.bool wh),(5,.slice (o.map at0) k c),(11,.slice (ko1.map at0) r1.keys.length kc1),(12,iX (r1.keys.length:Int)),(13,iX (k:Int))]) (fun⟨k,o,c⟩ u=>k<=r1.keys.length/\Sep w (fun _=>False) u [qan 107 2 o k c (qaP kx1 (r1.keys.take k) 0)]) (fun⟨k,o,c⟩=>r1.keys.length-k) (0,none,0) rfl ?_ ?_
 ·exact⟨il _,h.own0 107 2⟩
 intro q u g v j;obtain⟨k,o,c⟩:=q;obtain⟨hk,h⟩:=g;refine yx 1<|ys<|yc (rL (k:Int) (r1.keys.length:Int)) (fun d=>?_) fun d=>?_
 ·have y:=d;obtain⟨A,rfl⟩:=(hR1.ch h.ch).kb (by omega);refine yk<|ys<|qa<|ysr<|yp 2 [] (.i (k:Int) (r1.keys.length) (.m ((hR1.ch h.ch).kyx (x:=(k:Int)) (i:=k) (by omega) (by omega)).1 (.m ((hR1.ch h.ch).kyx (x:=(k:Int)) (i:=k) (by omega) (by omega)).2 (.e .z))))<|yo (zN [iX 0,nX] 51 h fun u B h=>?_);refine yo (zs h 1 fun u h=>?_);refine ye<|q7<|yp 6 [] (.l (h.c 1 0) (.l (h.c 1 1) .z))<|yo (zB [iX (((gky r1.keys k).after:Nat):Int),.slice (kx1 k).1 (kx1 k).2.1 (kx1 k).2.2] 107 1 h fun u C h=>?_);have h:=h.nrm 1 [iX (((gky r1.keys k).after:Nat):Int),.slice (kx1 k).1 (kx1 k).2.1 (kx1 k).2.2];refine yo (zA 0 32 1 1 (k+1) (qaP kx1 (r1.keys.take (k+1)) 0) h (Rd.all (h.b 2)) rfl (hz:=qqs (by omega)) fun u n p h D=>?_);refine yq 9<|yE (nB (nS ?_));refine q7<|yp 2 [] (.q6 ((k:Int)+1) .z)<|yE (fun a ha=>j (k+1,n,p) _ ⟨by omega,h.take 1⟩ (by show r1.keys.length-(k+1)<r1.keys.length-k;omega) a (ha.kp [0,1,5,11,12,13]))
 have E:=d;obtain rfl:k=r1.keys.length:=by omega
 rw[je]at h;refine qm (eS (qd (qb (nS ?_))));refine ys<|zD [10] h fun u h=>yd (uL 0 10) [] (.l (hR1.ch h.ch).c0 (.l (hR1.ch h.ch).c1 .z))<|yK 10 (yC (qkr sa1 sn1 sc1 (eo1.map at0) ec1 (o.map at0) c kx1 wh _ (hR1.ch h.ch).st (hR1.ch h.ch).sl (hR1.ch h.ch).sz (hR1.ch h.ch).ev (hR1.ch h.ch).ez (h.own 0).rd (h.own 0).kz ((hR1.ch h.ch).kr) hOk hW hen) ?_);rintro _ u ⟨r,f,s,rfl,t⟩;refine⟨_,rfl,?_⟩;have h:=h.join t;have F:(qam r1 wh).length=f:=by have:=h.len1 1;rwa[hJ]at this
 refine q8<|yd [11] [] .z<|yDe (nS ?_);refine q9 (yR1 (.slice (r.map at0) f s) ?_);exact⟨_,_,_,rfl,(h.ord [1]).eqv⟩
theorem bytes13_any (p:Plan)(whole:Bool)(w:World)(hT:LT w)(h7:gTop<=w.heap.size)(hP:PlanIn w p):CP 4 [p.val,.bool whole].toArray w (RQ (.bool true) w):=by
 have h:=Sep.nil w;refine yA Tryz.func4 rfl<|ysr<|yo (zN [iX p.p1,iX p.p2,.slice p.ea p.en p.ec,.slice p.ma p.mn p.mc] 26 h fun u ar h=>?_);refine yz 2<|ys<|ysr<|yo (yQ (h.look (qqj _ (qaN h.ch hT (fun _ h=>h.elim)) (ip h7 h.ch.size))) fun u h=>?_);refine yz 2<|ycf<|yk<|ys<|ysr<|yp 1 [] (.a (h.cs 0 0 4) .z)<|yo (yC (pfew_any p _) ?_);rintro _ u ⟨au,rfl,av,aw⟩;refine⟨_,rfl,?_⟩;have h:=h.same aw;refine yz 3<|yc (rN (rY au)) (fun L=>?_) fun L=>?_
 ·have b7:=L;refine yx 1<|q9 (rS (yR1 (.bool true) ?_));exact⟨rfl,h.ch⟩
 have ax:=L;obtain⟨M,b8⟩:=av.1 ax;obtain⟨b9,ba⟩:=Plan.tok (p:=p) (by have:=hP.el;omega);have bb:=hP.el;have bc:p.t.length=p.en:=by omega
 refine yk<|ys<|zDC [3,4] [0] h fun u h=>ydF [0,2] [] h.on (fun u h=>(.a (h.cs 0 0 4) (.a (h.cs 0 0 4) .z)))<|yH 1 (yC (qnG p _ (qaN h.ch hT (fun _ h=>h.elim)) (ip h7 h.ch.size) (hP.ch h.ch) M) ?_);rintro _ u ⟨d,x1,B,rfl,az⟩;refine⟨_,rfl,?_⟩;have h:=h.join az;obtain⟨r1,a9⟩:∃r,r=qei p.T0 p.t p.en:=⟨_,rfl⟩
 rw[<-a9]at h;have C:BuiltF p r1:=a9▸built_f hP.el M;have bd:=C.el;have bf:=C.kl;obtain⟨f,g,j,k,m,n,o,q,x⟩:=x1;refine zHm h<|yK 3 (yC (qqh p _ (qaN h.ch hT (fun _ h=>h.elim)) (ip h7 h.ch.size) (hP.ch h.ch) M 0 (by omega)) ?_);rintro _ u ⟨E,rfl,aA⟩;refine⟨_,rfl,?_⟩;have h:=h.addN (A:=qat E p.T0) aA;refine q8 ?_;obtain⟨aB,aC,_⟩:=h.at (i:=6) (A:=qat E p.T0) rfl;refine yK 4 (yC (qmp E p.T0 aB _ aC p.ok) ?_);rintro _ u ⟨s,F,D,G,rfl,aD⟩;refine⟨_,rfl,?_⟩;have h:=h.join aD;have v:(qZ p.T0).length=D:=by have:=h.len1 7;rwa[hJ]at this
 have y:=(h.own 7).nz;refine q8<|yd [5,6] [] .z<|yDe (nS ?_);refine ys<|qaR ([(1,.bool whole),(5,pX d),(6,pX s),(56,.bool (!((qf (qZ p.T0)).toList==(qf (r1.start)).toList)))]) (fun u=>Sep w (fun _=>False) u [qbX ar [iX p.p1,iX p.p2,.slice p.ea p.en p.ec,.slice p.ma p.mn p.mc] 26,qbX d (recC ⟨f,g,j,k,m,n,o,q,x⟩ r1 B) qaW,qan tEv 5 k r1.evs.length m (evsV r1.evs),qan qke 2 n r1.keys.length o (qaP q r1.keys 0),roA (roL ⟨f,g,j,k,m,n,o,q,x⟩ r1),qfy (ScOk ⟨f,g,j,k,m,n,o,q,x⟩ r1),qat E p.T0,qan tU8 1 F D G (u8s (qZ p.T0)),qbX s [.slice (F.map at0) D G,nX,nX] 34]) (fun bg aa=>?_) (fun u h=>?_)
 ·refine zDC [24] [0,1,2,3,4,5,6,7,8] h fun u h=>ydF (uL 0 24) [] h.on (fun u h=>(.l (h.c 8 1) (.l (h.c 8 2) .z)))<|yK 24 (yQ (h.look (qdH s (r:=qbz p) _ (RcRd.fresh (h.b 8) (h.ownRd' 7) v y))) fun u h=>?_);refine zK (is:=[0,1,2,3,4,5,6,7,8]) h<|ydF (uL 25 3) [] h.on (fun u h=> .z)<|yv [44] (rI (qad (qbz p).evs) 0) (fun N=>?_) fun N=>?_
  ·have aE:=N;exact absurd rfl aE
  have bh:=N;refine ydF [28,29,30,31,33,34,35,36] [] h.on (fun u h=>(.l (h.c 8 0) (.l (h.rcx 1 (b:=d) (r:=r1) ⟨f,g,j,k,m,n,o,q,x⟩ B qaW).c0 .z)))<|qa6 32 37 (by kernel_rfl) (by decide) ?_ ?_
  ·refine qa7 32 _ (by kernel_rfl) rfl (qr (F.map at0) D G (qZ p.T0) (some 49) (by kernel_rfl) (h.ownRd' 7) v ?_);refine zH h<|yH 37 (qr f g j (r1.start) (some 54) (by kernel_rfl) ((h.rcx 1 (b:=d) (r:=r1) ⟨f,g,j,k,m,n,o,q,x⟩ B qaW).st) ((h.rcx 1 (b:=d) (r:=r1) ⟨f,g,j,k,m,n,o,q,x⟩ B qaW).sl) ?_);refine zH h<|ydF [38,39] [] h.on (fun u h=> .z)<|yDe (fun a ha=>aa _ (h.take 9) a (ha.kp [1,5,6,56]))
  refine qa7 37 _ (by kernel_rfl) rfl (qr f g j (r1.start) (some 54) (by kernel_rfl) ((h.rcx 1 (b:=d) (r:=r1) ⟨f,g,j,k,m,n,o,q,x⟩ B qaW).st) ((h.rcx 1 (b:=d) (r:=r1) ⟨f,g,j,k,m,n,o,q,x⟩ B qaW).sl) ?_);refine zH h<|yH 32 (qr (F.map at0) D G (qZ p.T0) (some 49) (by kernel_rfl) (h.ownRd' 7) v ?_);refine zH h<|ydF [38,39] [] h.on (fun u h=> .z)<|yDe (fun a ha=>aa _ (h.take 9) a (ha.kp [1,5,6,56]))
 refine yc (rN (rY ((qf (qZ p.T0)).toList==(qf (r1.start)).toList))) (fun O=>?_) fun O=>?_
 ·have aF:=O;exact absurd (by rw[C.st];exact beq_self_eq_true _) (j6.1 aF)
 have bi:=O;refine yk<|ys<|zD [2,3,6,7,12,13,16,17] h fun u h=>yd [0,1,4,5] [] .z<|yK 2 (yC (qdc d (r:=r1) whole _ (h.rcx 1 (b:=d) (r:=r1) ⟨f,g,j,k,m,n,o,q,x⟩ B qaW) C.W) ?_);rintro _ u ⟨P,H,Q,rfl,aG⟩;refine⟨_,rfl,?_⟩;have h:=h.join aG;have R:(qam r1 whole).length=H:=by have:=h.len1 9;rwa[hJ]at this
 refine q8<|qa6 3 6 (by kernel_rfl) (by decide) ?_ ?_
 ·refine qK 3 _ (by kernel_rfl) rfl (qr (P.map at0) H Q (qam r1 whole) (some 60) (by kernel_rfl) (h.ownRd' 9) R ?_);refine q8<|yK 6 (yC (qbW d (r1:=r1) whole _ (h.rcx 1 (b:=d) (r:=r1) ⟨f,g,j,k,m,n,o,q,x⟩ B qaW) C.ok C.W ⟨by omega,by omega⟩) ?_);rintro _ u ⟨aH,ab,aI,rfl,aJ⟩;refine⟨_,rfl,?_⟩;have h:=h.join aJ;have aK:(qam r1 whole).length=ab:=by have:=h.len1 10;rwa[hJ]at this
  refine q8<|yK 7 (qr (aH.map at0) ab aI (qam r1 whole) (some 64) (by kernel_rfl) (h.ownRd' 10) aK ?_);refine q8<|yd [8,9] [] .z<|yv [66] (rY (((qf (qam r1 whole))).toList==((qf (qam r1 whole))).toList)) (fun S=>?_) fun S=>?_
  ·have bj:=S;refine yd [10,11,14,15] [] .z<|yK 12 (yC (qdc s (r:=(qbz p)) whole _ (RcRd.fresh (h.b 8) (h.ownRd' 7) v y) (qf7 p)) ?_);rintro _ u ⟨T,I,U,rfl,aL⟩;refine⟨_,rfl,?_⟩;have h:=h.join aL;have V:(qam (qbz p) whole).length=I:=by have:=h.len1 11;rwa[hJ]at this
   refine q8<|qa6 13 16 (by kernel_rfl) (by decide) ?_ ?_
   ·refine qK 13 _ (by kernel_rfl) rfl (qr (T.map at0) I U (qam (qbz p) whole) (some 70) (by kernel_rfl) (h.ownRd' 11) V ?_);refine q8<|yK 16 (yC (qbW s (r1:=(qbz p)) whole _ (RcRd.fresh (h.b 8) (h.ownRd' 7) v y) (qfC p) (qf7 p) ⟨il _,il _⟩) ?_);rintro _ u ⟨aM,ac,aN,rfl,aO⟩;refine⟨_,rfl,?_⟩;have h:=h.join aO;have aP:(qam (qbz p) whole).length=ac:=by have:=h.len1 12;rwa[hJ]at this
    refine q8<|yK 17 (qr (aM.map at0) ac aN (qam (qbz p) whole) (some 74) (by kernel_rfl) (h.ownRd' 12) aP ?_);refine q8<|yd (uL 18 3) [] .z<|yDe (nS ?_);refine q9 (yR1 (.bool (((qf (qam (qbz p) whole))).toList==((qf (qam (qbz p) whole))).toList)) ?_);exact⟨by rw[beq_self_eq_true],h.ch⟩
   refine qK 16 _ (by kernel_rfl) rfl (yC (qbW s (r1:=(qbz p)) whole _ (RcRd.fresh (h.b 8) (h.ownRd' 7) v y) (qfC p) (qf7 p) ⟨il _,il _⟩) ?_);rintro _ u ⟨ad,X,ae,rfl,aQ⟩;refine⟨_,rfl,?_⟩;have h:=h.join aQ;have af:(qam (qbz p) whole).length=X:=by have:=h.len1 12;rwa[hJ]at this
   refine q8<|qa6 13 17 (by kernel_rfl) (by decide) ?_ ?_
   ·refine qK 13 _ (by kernel_rfl) rfl (qr (T.map at0) I U (qam (qbz p) whole) (some 70) (by kernel_rfl) (h.ownRd' 11) V ?_);refine q8<|yK 17 (qr (ad.map at0) X ae (qam (qbz p) whole) (some 74) (by kernel_rfl) (h.ownRd' 12) af ?_);refine q8<|yd (uL 18 3) [] .z<|yDe (nS ?_);refine q9 (yR1 (.bool (((qf (qam (qbz p) whole))).toList==((qf (qam (qbz p) whole))).toList)) ?_);exact⟨by rw[beq_self_eq_true],h.ch⟩
   refine qK 17 _ (by kernel_rfl) rfl (qr (ad.map at0) X ae (qam (qbz p) whole) (some 74) (by kernel_rfl) (h.ownRd' 12) af ?_);refine q8<|yK 13 (qr (T.map at0) I U (qam (qbz p) whole) (some 70) (by kernel_rfl) (h.ownRd' 11) V ?_);refine q8<|yd (uL 18 3) [] .z<|yDe (nS ?_);refine q9 (yR1 (.bool (((qf (qam (qbz p) whole))).toList==((qf (qam (qbz p) whole))).toList)) ?_);exact⟨by rw[beq_self_eq_true],h.ch⟩
  have aR:=S;exact absurd (beq_self_eq_true _) (j6.1 aR)
 refine qK 6 _ (by kernel_rfl) rfl (yC (qbW d (r1:=r1) whole _ (h.rcx 1 (b:=d) (r:=r1) ⟨f,g,j,k,m,n,o,q,x⟩ B qaW) C.ok C.W ⟨by omega,by omega⟩) ?_);rintro _ u ⟨ag,Y,ah,rfl,aS⟩;refine⟨_,rfl,?_⟩;have h:=h.join aS;have ai:(qam r1 whole).length=Y:=by have:=h.len1 10;rwa[hJ]at this
 refine q8<|qa6 3 7 (by kernel_rfl) (by decide) ?_ ?_
 ·refine qK 3 _ (by kernel_rfl) rfl (qr (P.map at0) H Q (qam r1 whole) (some 60) (by kernel_rfl) (h.ownRd' 9) R ?_);refine q8<|yK 7 (qr (ag.map at0) Y ah (qam r1 whole) (some 64) (by kernel_rfl) (h.ownRd' 10) ai ?_);refine q8<|yd [8,9] [] .z<|yv [66] (rY (((qf (qam r1 whole))).toList==((qf (qam r1 whole))).toList)) (fun Z=>?_) fun Z=>?_
  ·have bk:=Z;refine yd [10,11,14,15] [] .z<|yK 12 (yC (qdc s (r:=(qbz p)) whole _ (RcRd.fresh (h.b 8) (h.ownRd' 7) v y) (qf7 p)) ?_);rintro _ u ⟨a0,J,a1,rfl,aT⟩;refine⟨_,rfl,?_⟩;have h:=h.join aT;have a2:(qam (qbz p) whole).length=J:=by have:=h.len1 11;rwa[hJ]at this
   refine q8<|qa6 13 16 (by kernel_rfl) (by decide) ?_ ?_
   ·refine qK 13 _ (by kernel_rfl) rfl (qr (a0.map at0) J a1 (qam (qbz p) whole) (some 70) (by kernel_rfl) (h.ownRd' 11) a2 ?_);refine q8<|yK 16 (yC (qbW s (r1:=(qbz p)) whole _ (RcRd.fresh (h.b 8) (h.ownRd' 7) v y) (qfC p) (qf7 p) ⟨il _,il _⟩) ?_);rintro _ u ⟨aU,aj,aV,rfl,aW⟩;refine⟨_,rfl,?_⟩;have h:=h.join aW;have aX:(qam (qbz p) whole).length=aj:=by have:=h.len1 12;rwa[hJ]at this
    refine q8<|yK 17 (qr (aU.map at0) aj aV (qam (qbz p) whole) (some 74) (by kernel_rfl) (h.ownRd' 12) aX ?_);refine q8<|yd (uL 18 3) [] .z<|yDe (nS ?_);refine q9 (yR1 (.bool (((qf (qam (qbz p) whole))).toList==((qf (qam (qbz p) whole))).toList)) ?_);exact⟨by rw[beq_self_eq_true],h.ch⟩
   refine qK 16 _ (by kernel_rfl) rfl (yC (qbW s (r1:=(qbz p)) whole _ (RcRd.fresh (h.b 8) (h.ownRd' 7) v y) (qfC p) (qf7 p) ⟨il _,il _⟩) ?_);rintro _ u ⟨ak,a3,al,rfl,aY⟩;refine⟨_,rfl,?_⟩;have h:=h.join aY;have am:(qam (qbz p) whole).length=a3:=by have:=h.len1 12;rwa[hJ]at this
   refine q8<|qa6 13 17 (by kernel_rfl) (by decide) ?_ ?_
   ·refine qK 13 _ (by kernel_rfl) rfl (qr (a0.map at0) J a1 (qam (qbz p) whole) (some 70) (by kernel_rfl) (h.ownRd' 11) a2 ?_);refine q8<|yK 17 (qr (ak.map at0) a3 al (qam (qbz p) whole) (some 74) (by kernel_rfl) (h.ownRd' 12) am ?_);refine q8<|yd (uL 18 3) [] .z<|yDe (nS ?_);refine q9 (yR1 (.bool (((qf (qam (qbz p) whole))).toList==((qf (qam (qbz p) whole))).toList)) ?_);exact⟨by rw[beq_self_eq_true],h.ch⟩
   refine qK 17 _ (by kernel_rfl) rfl (qr (ak.map at0) a3 al (qam (qbz p) whole) (some 74) (by kernel_rfl) (h.ownRd' 12) am ?_);refine q8<|yK 13 (qr (a0.map at0) J a1 (qam (qbz p) whole) (some 70) (by kernel_rfl) (h.ownRd' 11) a2 ?_);refine q8<|yd (uL 18 3) [] .z<|yDe (nS ?_);refine q9 (yR1 (.bool (((qf (qam (qbz p) whole))).toList==((qf (qam (qbz p) whole))).toList)) ?_);exact⟨by rw[beq_self_eq_true],h.ch⟩
  have aZ:=Z;exact absurd (beq_self_eq_true _) (j6.1 aZ)
 refine qK 7 _ (by kernel_rfl) rfl (qr (ag.map at0) Y ah (qam r1 whole) (some 64) (by kernel_rfl) (h.ownRd' 10) ai ?_);refine q8<|yK 3 (qr (P.map at0) H Q (qam r1 whole) (some 60) (by kernel_rfl) (h.ownRd' 9) R ?_);refine q8<|yd [8,9] [] .z<|yv [66] (rY (((qf (qam r1 whole))).toList==((qf (qam r1 whole))).toList)) (fun a4=>?_) fun a4=>?_
 ·have bl:=a4;refine yd [10,11,14,15] [] .z<|yK 12 (yC (qdc s (r:=(qbz p)) whole _ (RcRd.fresh (h.b 8) (h.ownRd' 7) v y) (qf7 p)) ?_);rintro _ u ⟨a5,K,a6,rfl,b0⟩;refine⟨_,rfl,?_⟩;have h:=h.join b0;have a7:(qam (qbz p) whole).length=K:=by have:=h.len1 11;rwa[hJ]at this
  refine q8<|qa6 13 16 (by kernel_rfl) (by decide) ?_ ?_
  ·refine qK 13 _ (by kernel_rfl) rfl (qr (a5.map at0) K a6 (qam (qbz p) whole) (some 70) (by kernel_rfl) (h.ownRd' 11) a7 ?_);refine q8<|yK 16 (yC (qbW s (r1:=(qbz p)) whole _ (RcRd.fresh (h.b 8) (h.ownRd' 7) v y) (qfC p) (qf7 p) ⟨il _,il _⟩) ?_);rintro _ u ⟨b1,an,b2,rfl,b3⟩;refine⟨_,rfl,?_⟩;have h:=h.join b3;have b4:(qam (qbz p) whole).length=an:=by have:=h.len1 12;rwa[hJ]at this
   refine q8<|yK 17 (qr (b1.map at0) an b2 (qam (qbz p) whole) (some 74) (by kernel_rfl) (h.ownRd' 12) b4 ?_);refine q8<|yd (uL 18 3) [] .z<|yDe (nS ?_);refine q9 (yR1 (.bool (((qf (qam (qbz p) whole))).toList==((qf (qam (qbz p) whole))).toList)) ?_);exact⟨by rw[beq_self_eq_true],h.ch⟩
  refine qK 16 _ (by kernel_rfl) rfl (yC (qbW s (r1:=(qbz p)) whole _ (RcRd.fresh (h.b 8) (h.ownRd' 7) v y) (qfC p) (qf7 p) ⟨il _,il _⟩) ?_);rintro _ u ⟨ao,a8,ap,rfl,b5⟩;refine⟨_,rfl,?_⟩;have h:=h.join b5;have aq:(qam (qbz p) whole).length=a8:=by have:=h.len1 12;rwa[hJ]at this
  refine q8<|qa6 13 17 (by kernel_rfl) (by decide) ?_ ?_
  ·refine qK 13 _ (by kernel_rfl) rfl (qr (a5.map at0) K a6 (qam (qbz p) whole) (some 70) (by kernel_rfl) (h.ownRd' 11) a7 ?_);refine q8<|yK 17 (qr (ao.map at0) a8 ap (qam (qbz p) whole) (some 74) (by kernel_rfl) (h.ownRd' 12) aq ?_);refine q8<|yd (uL 18 3) [] .z<|yDe (nS ?_);refine q9 (yR1 (.bool (((qf (qam (qbz p) whole))).toList==((qf (qam (qbz p) whole))).toList)) ?_);exact⟨by rw[beq_self_eq_true],h.ch⟩
  refine qK 17 _ (by kernel_rfl) rfl (qr (ao.map at0) a8 ap (qam (qbz p) whole) (some 74) (by kernel_rfl) (h.ownRd' 12) aq ?_);refine q8<|yK 13 (qr (a5.map at0) K a6 (qam (qbz p) whole) (some 70) (by kernel_rfl) (h.ownRd' 11) a7 ?_);refine q8<|yd (uL 18 3) [] .z<|yDe (nS ?_);refine q9 (yR1 (.bool (((qf (qam (qbz p) whole))).toList==((qf (qam (qbz p) whole))).toList)) ?_);exact⟨by rw[beq_self_eq_true],h.ch⟩
 have b6:=a4;exact absurd (beq_self_eq_true _) (j6.1 b6)
end Go.Proofs.YtjjcnhgpccancaaGreatDoor.X
namespace Go.Proofs.YtjjcnhgpccancaaGreatDoor
open Go.ChangeShapes Go.WideShapes Go.ChangeAt Go.RowKit
theorem qli:ownKnob Tryz.prog.godebug=none:=by kernel_rfl
abbrev qnJ:List (String×DataW Unit):=[("flipbook/glyph.wide",Rows.laid_flipbook_glyph_wide),("flipbook/glyph.signs",Rows.laid_flipbook_glyph_signs),("math/bits.deBruijn32tab",Rows.laid_math_bits_deBruijn32tab),("math/bits.deBruijn64tab",Rows.laid_math_bits_deBruijn64tab),("internal/strconv.uint64pow10",Rows.laid_internal_strconv_uint64pow10),("unicode/utf8.acceptRanges",Rows.laid_unicode_utf8_acceptRanges),("unicode/utf8.first",Rows.laid_unicode_utf8_first)]
theorem doorMet (os:Os)(args:Array Value):laidMetH Tryz.prog qnJ ((World.laidAll Tryz.prog os qnJ).forCall (fun _ _=>0) ⟨#[],args,[]⟩).memory:=by
 rw[MakeChecks.laidMetH_plain _ _ _ (by kernel_rfl)];exact laidMet_laidAll _ (by kernel_rfl) (by kernel_rfl)
theorem qnK (os:Os):(World.laidAll Tryz.prog os qnJ).Shaped Tryz.prog:=World.shaped_of_ZipB (by kernel_rfl) (by kernel_rfl)
theorem qcE {W:World}{g n t:Nat}{k:IntKind}{e:TypeId}(he:Tryz.prog.underlying e=some (.int k))(ce:Tryz.prog.cellsOf e=1){name:String}{cs:Array Value}{fuel:Nat}{l:List Int}{q:List MemPlace}(hg:Tryz.prog.globalNamed name=some g)(hv:W.var? Tryz.prog name=some cs)
  (hd:DataW.trod (H:=Unit) (fun _=>()) Tryz.prog W 0 (fun _=>true) false fuel t cs.toList=some (.agg (l.map fun n=> .lit (.int k n)),q))
  (ht:Tryz.prog.underlying t=some (.array n e)) (hl:l.length=n):∀r,r<l.length->W.cell? ⟨g,r,none⟩=some (.int k (l.getD r 0)):=by
 obtain⟨xs,m,_,ex,_,i,b⟩:=DataW.trod_array ht hd;intro r hr;have hE:=b r (by omega);rw[ce,Nat.mul_one,List.getElem?_eq_getElem (by omega)]at hE;obtain⟨z,c,d,_⟩:=DataW.trod_int he hE;have f:(xs.map (·.1))=l.map fun n=> .lit (.int k n):=(DataW.agg.inj (Prod.mk.inj ex).1).symm;have a:(xs.map (·.1))[r]? =(l.map fun n=>(DataW.lit (.int k n):DataW Unit))[r]? :=by rw[f]
 rw[List.getElem?_map,List.getElem?_map,List.getElem?_eq_getElem (by omega:r<xs.length),List.getElem?_eq_getElem (by omega:r<l.length),d]at a;have hz:z=l.getD r 0:=by
  simp only[Option.map_some,Option.some.injEq,DataW.lit.injEq,Lit.int.injEq,true_and]at a;rw[a,List.getD,List.getElem?_eq_getElem (by omega:r<l.length)];rfl
 rw[World.var?_cell hg hv r,<-hz];have:cs.toList[r]? =some (.int k z):=by
  have h:((cs.toList.drop r).take 1)[0]? =some (.int k z):=by rw[c];rfl
  simpa using h
 simpa using this
theorem qiT {W:World}{g n t e u:Nat}{k:IntKind}{fs:Array Field}(hs:Tryz.prog.underlying e=some (.struct fs))(h0:∃f,fs[0]? =some f/\f.type=u/\f.offset=0)(h1:∃f,fs[1]? =some f/\f.type=u/\f.offset=1)(hz:fs.size=2)(hu:Tryz.prog.underlying u=some (.int k))(ce:Tryz.prog.cellsOf e=2)(cu:Tryz.prog.cellsOf u=1)
  {name:String} {cs:Array Value} {fuel:Nat} {l:List (Int×Int)} {q:List MemPlace} (hg:Tryz.prog.globalNamed name=some g) (hv:W.var? Tryz.prog name=some cs)
  (hd:DataW.trod (H:=Unit) (fun _=>()) Tryz.prog W 0 (fun _=>true) false fuel t cs.toList=some (.agg (l.map fun p=> .agg [.lit (.int k p.1),.lit (.int k p.2)]),q))
  (ht:Tryz.prog.underlying t=some (.array n e)) (hl:l.length=n):∀r p,l[r]? =some p->W.cell? ⟨g,r*2,none⟩=some (.int k p.1)/\W.cell? ⟨g,r*2+1,none⟩=some (.int k p.2):=by
 obtain⟨xs,m,_,ex,_,J,o⟩:=DataW.trod_array ht hd;intro r p hp;have hr:r<l.length:=(List.getElem?_eq_some_iff.1 hp).1;have hE:=o r (by omega);rw[ce,List.getElem?_eq_getElem (by omega)]at hE;have s:(xs.map (·.1))=l.map fun p=> .agg [.lit (.int k p.1),.lit (.int k p.2)]:=(DataW.agg.inj (Prod.mk.inj ex).1).symm;have a:(xs.map (·.1))[r]? =(l.map fun p=>(DataW.agg [.lit (.int k p.1),.lit (.int k p.2)]:DataW Unit))[r]? :=by rw[s]
 rw[List.getElem?_map,List.getElem?_map,List.getElem?_eq_getElem (by omega:r<xs.length),hp]at a;simp only[Option.map_some,Option.some.injEq]at a;obtain⟨ys,K,_,ey,_,v,i⟩:=DataW.trod_struct hs hE;rw[ey]at a;have j:=DataW.agg.inj a;obtain⟨f0,w,x,y⟩:=h0;obtain⟨f1,z,A,B⟩:=h1;have b:=i 0 f0 w;have c:=i 1 f1 z;rw[x,y,cu,List.drop_zero,List.take_take]at b;rw[A,B,cu]at c;have hy:ys.length=2:=by rw[v,hz]
 rw[List.getElem?_eq_getElem (by omega)]at b c;obtain⟨L,C,D,_⟩:=DataW.trod_int hu b;obtain⟨M,E,F,_⟩:=DataW.trod_int hu c;have d:(ys.map (·.1))[0]? =some (.lit (.int k p.1)):=by rw[j];rfl
 have h:(ys.map (·.1))[1]? =some (.lit (.int k p.2)):=by rw[j];rfl
 rw[List.getElem?_map,List.getElem?_eq_getElem (by omega),D]at d;rw[List.getElem?_map,List.getElem?_eq_getElem (by omega),F]at h;simp only[Option.map_some,Option.some.injEq,DataW.lit.injEq,Lit.int.injEq,true_and]at d h;subst d h;have G:cs.toList[r*2]? =some (.int k p.1):=by
  have h0:((cs.toList.drop (r*2)).take (min 1 2))[0]? =some (.int k p.1):=by rw[C];rfl
  simpa using h0
 have I:cs.toList[r*2+1]? =some (.int k p.2):=by
  have h0:((((cs.toList.drop (r*2)).take 2).drop 1).take 1)[0]? =some (.int k p.2):=by rw[E];rfl
  simpa using h0
 exact⟨by rw[World.var?_cell hg hv];simpa using G,by rw[World.var?_cell hg hv];simpa using I⟩
def firstL:List Int:=(List.range 256).map X.firstN
def accL:List (Int×Int):=(List.range 16).map X.accN
theorem qiU {c:Nat}(h:c<256):firstL.length=256/\firstL.getD c 0=X.firstN c:=by
 have e:firstL.length=256:=by simp[firstL]
 refine⟨e,?_⟩;rw[List.getD,firstL,List.getElem?_map,List.getElem?_range h];rfl
theorem acc_at {i:Nat}(h:i<16):accL[i]? =some (X.accN i):=by
 rw[accL,List.getElem?_map,List.getElem?_range h];rfl
set_option maxRecDepth 100000 in
theorem qnL {W:World}(h:laidMetH Tryz.prog qnJ W):X.LT W:=by
 rw[MakeChecks.laidMetH_plain _ _ _ (by kernel_rfl)]at h;obtain⟨ps,⟨G,H,I,f0,J,K,a,o,q,r,⟨L,M,N,f1,O,P,b,s,t,v,⟨Q,R,S,f2,T,U,V,Y,Z,a0,⟨g3,t3,a3,f3,p3,q3,a6,a7,a8,a9,⟨g4,t4,ac,f4,p4,q4,d,w,x,y,⟨g5,t5,ah,f5,p5,q5,f,z,A,g,⟨g6,t6,am,f6,p6,q6,j,B,C,m,_,_⟩,_⟩,_⟩,_⟩,_⟩,_⟩,_⟩,_,_⟩:=h;obtain rfl:=Option.some.inj ((show Tryz.prog.globalNamed "flipbook/glyph.wide" =some 0 by kernel_rfl).symm.trans a)
 obtain rfl:=Option.some.inj ((show Tryz.prog.globalNamed "flipbook/glyph.signs" =some 3 by kernel_rfl).symm.trans b)
 obtain rfl:=Option.some.inj ((show Tryz.prog.globalNamed "internal/strconv.uint64pow10" =some 4 by kernel_rfl).symm.trans d)
 obtain rfl:=Option.some.inj ((show Tryz.prog.globalNamed "unicode/utf8.acceptRanges" =some 2 by kernel_rfl).symm.trans f)
 obtain rfl:=Option.some.inj ((show Tryz.prog.globalNamed "unicode/utf8.first" =some 1 by kernel_rfl).symm.trans j)
 obtain rfl:=Option.some.inj ((show(Tryz.prog.globals[0]?).map (·.type)=some 258 by kernel_rfl).symm.trans o);obtain rfl:=Option.some.inj ((show(Tryz.prog.globals[3]?).map (·.type)=some 270 by kernel_rfl).symm.trans s);obtain rfl:=Option.some.inj ((show(Tryz.prog.globals[4]?).map (·.type)=some 284 by kernel_rfl).symm.trans w);obtain rfl:=Option.some.inj ((show(Tryz.prog.globals[2]?).map (·.type)=some 262 by kernel_rfl).symm.trans z);obtain rfl:=Option.some.inj ((show(Tryz.prog.globals[1]?).map (·.type)=some 259 by kernel_rfl).symm.trans B);have D:Rows.laid_unicode_utf8_first= .agg (firstL.map fun n=> .lit (.int .u8 n)):=by kernel_rfl
 rw[D]at m;have E:(Rows.laid_unicode_utf8_acceptRanges:DataW Unit)= .agg (accL.map fun p=> .agg [.lit (.int .u8 p.1),.lit (.int .u8 p.2)]):=by kernel_rfl
 rw[E]at g;refine⟨⟨qcE (k:= .i32) (e:=21) (by kernel_rfl) (by kernel_rfl) a q r (by kernel_rfl) rfl,qcE (k:= .i32) (e:=21) (by kernel_rfl) (by kernel_rfl) b t v (by kernel_rfl) rfl⟩,⟨fun c hc=>?_,fun i hi=>?_⟩,fun i hi=>?_⟩
 ·have:=qcE (k:= .u8) (e:=5) (by kernel_rfl) (by kernel_rfl) j C m (by kernel_rfl) (qiU hc).1 c (by rw[(qiU hc).1];exact hc)
  rw[(qiU hc).2]at this;exact this
 ·exact qiT (k:= .u8) (e:=261) (u:=5) Tryz.underlying261 ⟨_,rfl,rfl,rfl⟩ ⟨_,rfl,rfl,rfl⟩ rfl Tryz.underlying5 (by kernel_rfl) (by kernel_rfl) f A g Tryz.underlying262 (by simp[accL]) i _ (acc_at hi)
 ·have F:=qcE (k:= .u64) (e:=110) (l:=[1,10,100,1000,10000,100000,1000000,10000000,100000000,1000000000,10000000000,100000000000,1000000000000,10000000000000,100000000000000,1000000000000000,10000000000000000,100000000000000000,1000000000000000000,10000000000000000000]) (by kernel_rfl) (by kernel_rfl) d x y (by kernel_rfl) rfl i (Nat.lt_of_lt_of_le hi (by decide))
  rw[F];obtain rfl|rfl|rfl:i=0\/i=1\/i=2:=by omega
  all_goals rfl
end Go.Proofs.YtjjcnhgpccancaaGreatDoor
namespace Go.Proofs.YtjjcnhgpccancaaGreatDoor
open Go.ChangeShapes Go.WideShapes Go.ChangeAt Go.RowKit
section
variable {H:Type}{enc:TypeId×Value->H}{P:Program}{w:World}{base:Nat}{spare:Nat->Bool}{held:Bool}
theorem qfa {α:Type}{l:List α}{i:Nat}{x:α}(h:(l.drop i).take 1=[x]):l[i]? =some x:=by
 have a:((l.drop i).take 1)[0]? =some x:=by rw[h];rfl
 simpa using a
end
theorem qlj {w w':World}(h:X.Ch (fun _=>False) w w'):Below w.heap.size w w':=⟨h.os,h.tape,h.output,h.size,fun k hk=>h.block k hk id⟩
theorem qlk {W:World}(h:laidMetH Tryz.prog qnJ W):X.gTop<=W.heap.size:=by
 rw[MakeChecks.laidMetH_plain _ _ _ (by kernel_rfl)]at h;obtain⟨ps,⟨g,i,j,f0,k,l,n,o,p,q,⟨r,s,t,f1,u,x,y,z,A,B,⟨C,D,E,f2,F,G,I,J,K,L,⟨M,N,a,f3,O,Q,b,c,d,e,_,_⟩,_⟩,_⟩,_⟩,_,_⟩:=h;obtain rfl:=Option.some.inj ((show Tryz.prog.globalNamed "math/bits.deBruijn64tab" =some 6 by kernel_rfl).symm.trans b)
 obtain rfl:=Option.some.inj ((show(Tryz.prog.globals[6]?).map (·.type)=some 288 by kernel_rfl).symm.trans c);obtain⟨xs,m,_,_,f,_⟩:=DataW.trod_array Tryz.underlying288 e;have hl:a.toList.length=64:=f.trans (by kernel_rfl);have hc:=World.var?_cell b d 0;have:∃v,a[0]? =some v:=⟨_,Array.getElem?_eq_getElem (by simpa using(show 0<a.toList.length by omega))⟩
 obtain⟨v,hv⟩:=this;rw[hv]at hc;have:=X.cell_lt hc;show 7<=_;omega
end Go.Proofs.YtjjcnhgpccancaaGreatDoor

namespace Go.Proofs.YtjjcnhgpccancaaGreatDoor
open Go.ChangeShapes Go.WideShapes Go.ChangeAt Go.RowKit
theorem X.flat_sz {A:Type}{sz:Nat}{vals:A->List Value}(hv:∀x,(vals x).length=sz):∀l:List A,((l.map vals).flatten).length=l.length*sz
 |[]=>by simp
 |x::l=>by rw[List.map_cons,List.flatten_cons,List.length_append,hv,X.flat_sz hv l,List.length_cons,Nat.add_mul];omega
theorem X.flat_ix {A:Type}{sz:Nat}{vals:A->List Value}(hv:∀x,(vals x).length=sz):∀(l:List A) (i j:Nat) (hi:i<l.length),j<sz->((l.map vals).flatten)[i*sz+j]? =(vals l[i])[j]?
 |x::l,0,j,_,hj=>by
  rw[List.map_cons,List.flatten_cons,Nat.zero_mul,Nat.zero_add,List.getElem?_append_left (by rw[hv];exact hj)];rfl
 |x::l,i+1,j,hi,hj=>by
  have e:(i+1)*sz=sz+i*sz:=by rw[Nat.add_mul];omega
  rw[List.map_cons,List.flatten_cons,List.getElem?_append_right (by rw[hv];omega),hv,show(i+1)*sz+j-sz=i*sz+j by omega,X.flat_ix hv l i j (by simpa using hi) hj];rfl
section
variable {H:Type}{enc:TypeId×Value->H}{w:World}{base:Nat}
theorem qh4 {A:Type}[Inhabited A](sz:Nat)(h0:0<sz)(vals:A->List Value)(hv:∀x,(vals x).length=sz)(Pq:A->Prop){et t:TypeId}(ce:Tryz.prog.cellsOf et=sz)(ht:Tryz.prog.underlying t=some (.slice et))
  (hs:∀(x:A) (b off:Nat) q,w.cell? ⟨b,off,some q⟩≠(vals x)[0]?) (each:∀n cs x,DataW.trod enc Tryz.prog w base (fun _=>true) true n et cs=some x->cs.length=sz-> ∃y,cs=vals y/\Pq y)
  {n0:Nat} {v:Value} {x:DataW H×List MemPlace} (hf:DataW.trod enc Tryz.prog w base (fun _=>true) true n0 t [v]=some x):
  ∃(a:Option Addr) (n c:Nat) (l:List A),v= .slice a n c/\(n=0\/ ∃b off,a=some ⟨b,off,none⟩)/\X.Rd w a ((l.map vals).flatten)/\l.length=n/\(∀y∈l,Pq y)/\(a=none->c=0)/\n<=c/\c<=maxLen:=by
 rcases Deep.open_slice ht hf with⟨B,_⟩|⟨a,d,k,m,n,D,Pl,C,_,hl,E,hm,_,hx⟩
 ·have o:v= .slice (none) 0 0:=List.head_eq_of_cons_eq B
  exact⟨none,0,0,[],o,.inl rfl,X.Rd.nil _ _,rfl,(fun y hy=>by cases hy),fun _=>rfl,Nat.le_refl _,Nat.zero_le _⟩
 ·have o:v= .slice (some a) d k:=List.head_eq_of_cons_eq C
  have hm':m=k:=by simpa using hm
  rw[ce]at hx;have each':∀i,i<d-> ∃y:A,w.cells? base (a.add (i*sz)) sz=some (vals y)/\Pq y:=fun i hi=>by
   obtain⟨cs,s,F⟩:=hx i (by omega);obtain⟨_,p,_⟩:=World.cells?_some s;obtain⟨y,rfl,hy⟩:=each _ _ _ F p;exact⟨y,s,hy⟩
  obtain⟨f,r⟩:=Deep.choose_lt each';refine⟨some a,d,k,(List.range d).map f,o,?_,⟨fun e=>(by cases e),fun ad e j u hj=>?_⟩,by simp,fun y hy=>?_,(fun e=>by cases e),hl,E⟩
  ·rcases Nat.eq_zero_or_pos d with hz|hz
   ·exact .inl hz
   ·right
    obtain⟨_,_,hc⟩:=World.cells?_some (r 0 hz).1;have g:=hc 0 h0;rw[Deep.add_add,Nat.zero_mul]at g;have h:w.cell? a=(vals (f 0))[0]? :=g;obtain⟨b,off,sp⟩:=a;cases sp with
    |none=>exact⟨b,off,rfl⟩
    |some q=>exact absurd h (hs _ b off q)
  ·obtain rfl:a=ad:=by injection e
   have p:(((List.range d).map f).map vals).flatten.length=d*sz:=by rw[X.flat_sz hv];simp
   have G:j<d*sz:=by
    rw[<-p];exact(List.getElem?_eq_some_iff.1 hj).1
   have hi:j/sz<d:=(Nat.div_lt_iff_lt_mul h0).2 G;have hr:j % sz<sz:=Nat.mod_lt _ h0;have z:j=j/sz*sz+j % sz:=by rw[Nat.mul_comm];exact(Nat.div_add_mod j sz).symm
   have g:=X.flat_ix hv ((List.range d).map f) (j/sz) (j % sz) (by simpa using hi) hr;rw[<-z,hj,List.getElem_map,List.getElem_range]at g;obtain⟨_,_,hc⟩:=World.cells?_some (r (j/sz) hi).1;have h:=hc (j % sz) hr;rw[Deep.add_add,<-z]at h;rw[h,<-g]
  ·obtain⟨i,hi,rfl⟩:=List.mem_map.1 hy
   exact(r i (List.mem_range.1 hi)).2
theorem qks:∀l:List Int,(l.map fun x=>[Value.int .i64 x]).flatten=l.map (Value.int .i64)
 |[]=>rfl
 |x::l=>by rw[List.map_cons,List.flatten_cons,qks l];rfl
theorem five_of {cs:List Value}{a b c d e:Value}(hl:cs.length=5)(h0:cs[0]? =some a)(h1:cs[1]? =some b)(h2:cs[2]? =some c)(h3:cs[3]? =some d)(h4:cs[4]? =some e):cs=[a,b,c,d,e]:=by
 match cs,hl with
 |[u0,u1,u2,u3,u4],_=>
  simp only[List.getElem?_cons_zero,List.getElem?_cons_succ,Option.some.injEq]at h0 h1 h2 h3 h4;rw[h0,h1,h2,h3,h4]
theorem agg4 {P:Program}{r:Reach}{b0:Nat}{t:TypeId}{fs:Array Field}{v:Value}(ht:P.underlying t=some (.struct fs))(ct:P.cellsOf t=4)(hval:Value.okWide P w r b0 t v):∃u0 u1 u2 u3,v= .agg #[u0,u1,u2,u3]:=by
 obtain⟨cs,rfl,hs⟩:∃cs,v= .agg cs/\cs.size=4:=by
  unfold Value.okWide at hval;rw[ht]at hval;obtain⟨cs,e,f,_⟩:=hval;exact⟨cs,e,by rw[f,ct]⟩
 match hl:cs.toList,(show cs.toList.length=4 by simpa using hs)with
 |[a,b,c,d],_=>exact⟨a,b,c,d,by rw[<-Array.toArray_toList (xs:=cs),hl]⟩
set_option maxRecDepth 100000 in
theorem ev_cells {n:Nat}{cs:List Value}{x:DataW H×List MemPlace}(h:DataW.trod enc Tryz.prog w base (fun _=>true) true n 66 cs=some x)(hl:cs.length=5):∃y:X.Ev,cs=y.vals/\True:=by
 obtain⟨xs,m,_,_,_,k,hf⟩:=DataW.trod_struct Tryz.underlying66 h;have l:Tryz.prog.cellsOf 9=1:=by kernel_rfl
 have o:Tryz.prog.cellsOf 3=1:=by kernel_rfl
 have e:DataW.trod enc Tryz.prog w base (fun _=>true) true m 3 ((cs.drop 0).take (Tryz.prog.cellsOf 3))=xs[0]? :=hf 0 _ rfl;have f:DataW.trod enc Tryz.prog w base (fun _=>true) true m 3 ((cs.drop 1).take (Tryz.prog.cellsOf 3))=xs[1]? :=hf 1 _ rfl;have g:DataW.trod enc Tryz.prog w base (fun _=>true) true m 9 ((cs.drop 2).take (Tryz.prog.cellsOf 9))=xs[2]? :=hf 2 _ rfl;have i:DataW.trod enc Tryz.prog w base (fun _=>true) true m 3 ((cs.drop 3).take (Tryz.prog.cellsOf 3))=xs[3]? :=hf 3 _ rfl;have j:DataW.trod enc Tryz.prog w base (fun _=>true) true m 3 ((cs.drop 4).take (Tryz.prog.cellsOf 3))=xs[4]? :=hf 4 _ rfl;rw[l]at g;rw[o]at e f i j;have v:xs.length=5:=k;rw[List.getElem?_eq_getElem (by omega)]at e f g i j;obtain⟨a,p,_⟩:=DataW.trod_int Tryz.underlying3 e;obtain⟨b,q,_⟩:=DataW.trod_int Tryz.underlying3 f;obtain⟨s,r,_⟩:=DataW.trod_string Tryz.underlying9 g;obtain⟨c,t,_⟩:=DataW.trod_int Tryz.underlying3 i;obtain⟨d,u,_⟩:=DataW.trod_int Tryz.underlying3 j;exact⟨⟨a,b,s,c,d⟩,five_of hl (qfa p) (qfa q) (qfa r) (qfa t) (qfa u),trivial⟩
set_option maxRecDepth 100000 in
theorem evs_open {n0:Nat}{v:Value}{x:DataW H×List MemPlace}(hf:DataW.trod enc Tryz.prog w base (fun _=>true) true n0 23 [v]=some x):
  ∃(a:Option Addr) (n c:Nat) (l:List X.Ev),v= .slice a n c/\(n=0\/ ∃b off,a=some ⟨b,off,none⟩)/\X.Rd w a (X.evsV l)/\l.length=n/\(a=none->c=0)/\n<=9223372036854775807:=by
 have:Inhabited X.Ev:=⟨X.ev0⟩
 obtain⟨a,n,c,l,e,d,f,g,_,i,j,k⟩:=qh4 (w:=w) 5 (by decide) X.Ev.vals (fun _=>rfl) (fun _=>True) (by kernel_rfl) Tryz.underlying23 (fun x b off q h=>by
  have h':w.cell? ⟨b,off,some q⟩=some (.int .i64 x.time):=h;unfold World.cell? at h';split at h'
  ·simp at h'
  ·cases h') (fun _ _ _=>ev_cells) hf
 exact⟨a,n,c,l,e,d,f,g,i,Nat.le_trans j k⟩
set_option maxRecDepth 100000 in
theorem qnM {n0:Nat}{v:Value}{x:DataW H×List MemPlace}(hf:DataW.trod enc Tryz.prog w base (fun _=>true) true n0 24 [v]=some x):
  ∃(a:Option Addr) (n c:Nat) (l:List Int),v= .slice a n c/\(n=0\/ ∃b off,a=some ⟨b,off,none⟩)/\X.Rd w a (l.map (Value.int .i64))/\l.length=n/\n<=9223372036854775807:=by
 obtain⟨a,n,c,l,e,d,f,g,_,_,i,j⟩:=qh4 (w:=w) (A:=Int) 1 (by decide) (fun x=>[.int .i64 x]) (fun _=>rfl) (fun _=>True) (by kernel_rfl) Tryz.underlying24 (fun x b off q h=>by
  have h':w.cell? ⟨b,off,some q⟩=some (.int .i64 x):=h;unfold World.cell? at h';split at h'
  ·simp at h'
  ·cases h') (fun n cs x h hl=>by
   obtain⟨z,k,_⟩:=DataW.trod_int Tryz.underlying3 h;exact⟨z,k,trivial⟩) hf
 refine⟨a,n,c,l,e,d,?_,g,Nat.le_trans i j⟩;have m:(l.map fun x=>[Value.int .i64 x]).flatten=l.map (Value.int .i64):=by
  exact qks l
 rwa[m]at f
set_option maxRecDepth 100000 in
theorem qqt {r:Reach}{b0:Nat}{v:Value}{d:DataW H}{ps:List MemPlace}(hval:Value.okWide Tryz.prog w r b0 26 v)(hd:DataW.Trod enc Tryz.prog w base (fun _=>true) true 26 v d ps):∃p:X.Plan,v=p.val/\X.PlanIn w p:=by
 obtain⟨u0,u1,u2,u3,rfl⟩:=agg4 Tryz.underlying26 (by kernel_rfl) hval;obtain⟨I,hf⟩:=hd;obtain⟨xs,m,_,_,_,j,hf⟩:=DataW.trod_struct Tryz.underlying26 hf;have k:Tryz.prog.cellsOf 22=2:=by kernel_rfl
 have n:Tryz.prog.cellsOf 23=1:=by kernel_rfl
 have o:Tryz.prog.cellsOf 24=1:=by kernel_rfl
 have ci:Tryz.prog.cellsOf 3=1:=by kernel_rfl
 have J:xs.length=3:=j;have c:DataW.trod enc Tryz.prog w base (fun _=>true) true m 22 (([u0,u1,u2,u3].drop 0).take (Tryz.prog.cellsOf 22))=xs[0]? :=hf 0 _ rfl;have e:DataW.trod enc Tryz.prog w base (fun _=>true) true m 23 (([u0,u1,u2,u3].drop 2).take (Tryz.prog.cellsOf 23))=xs[1]? :=hf 1 _ rfl;have f:DataW.trod enc Tryz.prog w base (fun _=>true) true m 24 (([u0,u1,u2,u3].drop 3).take (Tryz.prog.cellsOf 24))=xs[2]? :=hf 2 _ rfl;rw[k]at c;rw[n]at e;rw[o]at f;rw[List.getElem?_eq_getElem (by omega)]at c e f;obtain⟨ys,K,_,_,_,L,g⟩:=DataW.trod_array Tryz.underlying22 c;have h:=g 0 (by decide);have i:=g 1 (by decide);rw[ci,List.getElem?_eq_getElem (by omega)]at h i;obtain⟨a,q,_⟩:=DataW.trod_int Tryz.underlying3 h;obtain⟨b,s,_⟩:=DataW.trod_int Tryz.underlying3 i;obtain⟨ea,en,ec,l,t,u,x,y,_,z⟩:=evs_open (v:=u2) e;obtain⟨ma,mn,mc,ms,A,B,C,D,E⟩:=qnM (v:=u3) f;have F:u0= .int .i64 a:=List.head_eq_of_cons_eq q;have G:u1= .int .i64 b:=List.head_eq_of_cons_eq s;exact⟨⟨a,b,ea,en,ec,l,ma,mn,mc,ms⟩,by rw[F,G,t,A];rfl,⟨x,y,u,C,D,B,z,E⟩⟩
end
end Go.Proofs.YtjjcnhgpccancaaGreatDoor
