/- What the proofs of LogAny need, part 7: the walks of the program's functions and the plain laws about them. -/
import Derived.Test.YtjjcnhgpccancaaGreatDoorQD6
import Derived.Test.YtjjcnhgpccancaaGreatDoorRows
import Derived.ProofKit
import Derived.OpenShut
import Derived.ChangeArms
import Derived.LaidMore
import Derived.Lay
import Derived.Stop.Joined
import Derived.Below
import Derived.SevenTiedAt
import Derived.ChangeSlices
import Derived.Carry
set_option linter.unusedSimpArgs false
set_option linter.unusedVariables false
set_option maxHeartbeats 4000000
namespace Go.Proofs.YtjjcnhgpccancaaGreatDoor.X
open Go Go.RowKit Go.Proofs.YtjjcnhgpccancaaGreatDoor
theorem qb7 (o:Option Nat)(n cap:Nat)(xs:List Int)(m:Int)(w:World)(hO:Own w tU8 1 o n cap (u8s xs))(hm:0<=m/\m<=9223372036854775807)(hz:n+10<=1000000000):CP 70 [.slice (o.map at0) n cap,iX m].toArray w fun e w'=> ∃o' n' c',e= .returned (.slice (o'.map at0) n' c')/\Own w' tU8 1 o' n' c' (u8s (xs++qt m.toNat))/\(xs++qt m.toNat).length=n'/\App w w' o o':=by
 have h:=Sep.startO hO;refine yA Tryz.func70 rfl<|yx 1<|ys<|qa<|qZ [0,1] (f':=[(0,.slice (o.map at0) n cap),(1,iX m)])<|qy (σ:=Int×Nat×List Int×Option Nat×Nat×Nat) (fun⟨x,f,zs,d,c,g⟩=>[(0,.slice (d.map at0) c g),(1,iX x)]) (fun⟨x,f,zs,d,c,g⟩ u=>0<=x/\x.toNat<128^(f+1)/\zs++qfw f x.toNat=xs++qt m.toNat/\c+f+1<=n+10/\x<=m/\Sep w (fun k=>o=some k) u [qaf tU8 1 d c g (u8s zs)]) (fun⟨x,f,zs,d,c,g⟩=>x.toNat) (m,9,xs,o,n,cap) rfl ?_ ?_
 ·exact⟨hm.1,(by have s:(128:Nat)^(9+1)=1180591620717411303424:=(by decide);rw[s];omega),rfl,by omega,Int.le_refl _,h.take 1⟩
 intro q u t I v;obtain⟨x,f,zs,d,c,g⟩:=q;obtain⟨j,y,l,hn2,J,h⟩:=t;have K:zs.length=c:=by have:=h.len1 0;rwa[hZ]at this
 refine ys<|yx 2<|yc (rL 127 x) (fun i=>?_) fun i=>?_
 ·have L:=i;refine yk<|qa<|ysr ?_;refine yp 5 [] (.p (q:=0<=(x:Int)/\0<(128:Int)) (by constructor<;>omega) (.q6 ((x % 128)+128) .z)) ?_;refine yo (zB [uX (IntKind.wrap .u8 ((x % 128)+128))] 5 1 h fun u A h=>?_);refine yo (zA (a2:=(some ⟨A,0,none⟩)) (ys:=u8s ([(IntKind.wrap .u8 ((x % 128)+128))])) 0 1 1 1 (c+1) (u8s (zs++[(IntKind.wrap .u8 ((x % 128)+128))])) h (Rd.all (h.b 1)) (qF _) (hz:=(qaE _ _).symm) (hy:=rfl) (hn2:=(fun e=>by cases e)) fun u B C h M=>?_);have N:(zs++[(IntKind.wrap .u8 ((x % 128)+128))]).length=(c+1):=by have:=h.len1 0;rwa[hZ]at this
  refine yz 8<|q7 ?_;refine yp 3 [] (.p (q:=0<=(x:Int)/\0<(128:Int)) (by constructor<;>omega) (.q6 (x/128) .z)) ?_;obtain⟨f,rfl⟩:∃f',f=f'+1:=by
   cases f with
   |zero=>exfalso;have:x.toNat<128:=y;omega
   |succ f=>exact⟨f,rfl⟩
  have O:128^(f+1+1)=128^(f+1)*128:=rfl;have hq:zs++[IntKind.wrap .u8 (x % 128+128)]++qfw f (x/128).toNat=xs++qt m.toNat:=by rw[<-l,qdR (by omega),wr_low13 j,show(x/128).toNat=x.toNat/128 by omega,ie];rfl
  refine yE (nB (fun a ha=>v (x/128,f,zs++[(IntKind.wrap .u8 ((x % 128)+128))],B,(c+1),C) _ ⟨by omega,by omega,hq,by omega,by omega,h.take 1⟩ (by show(x/128).toNat<x.toNat;omega) a (ha.kp [0,1])))
 have P:=i;refine ql (eS (qd (qb (nS ?_))));refine ysr<|yq 3<|yo (zB [uX (IntKind.wrap .u8 x)] 5 1 h fun u D h=>?_);refine yo (zA (a2:=(some ⟨D,0,none⟩)) (ys:=u8s ([(IntKind.wrap .u8 x)])) 0 1 1 1 (c+1) (u8s (zs++[(IntKind.wrap .u8 x)])) h (Rd.all (h.b 1)) (qF _) (hz:=(qaE _ _).symm) (hy:=rfl) (hn2:=(fun e=>by cases e)) fun u E F h Q=>?_);have R:(zs++[(IntKind.wrap .u8 x)]).length=(c+1):=by have:=h.len1 0;rwa[hZ]at this
 refine yz 6<|q9 (yR1 (.slice (E.map at0) (c+1) F) ?_);have G:(zs++[(IntKind.wrap .u8 x)]:List Int)=xs++qt m.toNat:=by rw[<-l,qch (by omega),wr_top13 j (by omega)]
 rw[G]at h;obtain⟨r,H⟩:=h.finA 0;exact⟨_,_,_,rfl,r,r.len1',H⟩
theorem qqv (b cap:Nat)(l:List Int)(w:World)(hr:Rd w (some ⟨b,0,none⟩) (u8s l))(hby:byts l)(hn:l.length<=1000000000):CP 71 [.slice (some ⟨b,0,none⟩) l.length cap].toArray w (RQ (.int .u32 (qcd l)) w):=by
 have h:=Sep.nil w;refine yA Tryz.func71 rfl<|yx 1<|yx 1<|ys<|yx 1<|qa<|qZ [0,3,4] (f':=[(0,.slice (some ⟨b,0,none⟩) l.length cap),(3,.int .u32 4294967295),(4,iX 0)])<|qy (σ:=Nat×Int) (fun⟨k,y⟩=>[(0,.slice (some ⟨b,0,none⟩) l.length cap),(3,.int .u32 y),(4,iX (k:Int))]) (fun⟨k,y⟩ u=>k<=l.length/\y=qhv l k/\Sep w (fun _=>False) u []) (fun⟨k,y⟩=>l.length-k) (0,4294967295) rfl ?_ ?_
 ·exact⟨ip _,rfl,h.take 0⟩
 intro q u v J A;obtain⟨k,y⟩:=q;obtain⟨hk,hy,h⟩:=v;refine ys<|yx 4<|yc (rL (k:Int) (l.length:Int)) (fun g=>?_) fun g=>?_
 ·have K:=g;have hv:=qpF hby (k:=k) (by omega);have r:=qld l k;have s:=qdB .xor (qhv l k) (l.getD k 0);refine yk<|ys<|qa<|yx 1<|qa<|qZ [0,3,4,5] (f':=[(0,.slice (some ⟨b,0,none⟩) l.length cap),(3,.int .u32 y),(4,iX (k:Int)),(5,iX 0)])<|qy (σ:=Nat×Int) (fun⟨j,x⟩=>[(0,.slice (some ⟨b,0,none⟩) l.length cap),(3,.int .u32 x),(4,iX (k:Int)),(5,iX (j:Int))]) (fun⟨j,x⟩ u=>j<=8/\(0<=x/\x<=4294967295)/\(qlc (qf .xor .u32 (qhv l k) (l.getD k 0)) j).toNat=x.toNat^^^((l.getD k 0).toNat>>>j)/\Sep w (fun _=>False) u []) (fun⟨j,x⟩=>8-j) (0,y) rfl ?_ ?_
  ·exact⟨ip _,(hy▸r),(by rw[hy];exact qqs r hv),h.take 0⟩
  intro q u B L t;obtain⟨j,x⟩:=q;obtain⟨hj,hx,f,h⟩:=B;refine ys<|yx 2<|yc (rL (j:Int) 8) (fun m=>?_) fun m=>?_
  ·have M:=m;have C:=qqq s j;have d:=crc_step hx C f;refine yk<|ys<|qa<|ysr<|yp 12 [] (.i (k:Int) (l.length) (.l (o:=(0+((k:Int)).toNat*1)) (qle (h.rd hr) (by omega)) (.p (q:=0<=((j:Int):Int)) (by omega) .z)))<|ye<|ysr<|yp 3 [] (.p (q:=0<=(1:Int)) (by omega) .z)<|ye<|yx 2<|yc (rE (qf .xor .u32 (qf .and .u32 x 1) (IntKind.wrap .u32 (qf .and .u8 (Int.fdiv (l.getD k 0) (2^min ((j:Int):Int).toNat (IntKind.bits .u8))) 1))) 1) (fun n=>?_) fun n=>?_
   ·have D:=n;have E:((((qlc (qf .xor .u32 (qhv l k) (l.getD k 0)) j).toNat % 2:Nat)):Int)=1:=by rw[<-qqr hx hv (by omega) f];exact D
    have c:(qlc (qf .xor .u32 (qhv l k) (l.getD k 0)) j).toNat % 2=1:=by omega
    refine q7<|yq 3<|yE (nB (nS ?_));refine q7<|yp 3 [] (.q6 ((j:Int)+1) .z)<|yE (fun a ha=>t (j+1,(qf .xor .u32 (Int.fdiv x (2^min (1:Int).toNat (IntKind.bits .u32))) 3988292384)) _ ⟨by omega,⟨(d.1 c).1,(d.1 c).2.1⟩,(d.1 c).2.2,h.take 0⟩ (by show 8-(j+1)<8-j;omega) a (ha.kp [0,3,4,5]))
   have F:=n;have E:((((qlc (qf .xor .u32 (qhv l k) (l.getD k 0)) j).toNat % 2:Nat)):Int)≠1:=by rw[<-qqr hx hv (by omega) f];exact F
   have c:¬(qlc (qf .xor .u32 (qhv l k) (l.getD k 0)) j).toNat % 2=1:=by omega
   refine qm (nB (nS ?_));refine q7<|yp 3 [] (.q6 ((j:Int)+1) .z)<|yE (fun a ha=>t (j+1,(Int.fdiv x (2^min (1:Int).toNat (IntKind.bits .u32)))) _ ⟨by omega,⟨(d.2 c).1,(d.2 c).2.1⟩,(d.2 c).2.2,h.take 0⟩ (by show 8-(j+1)<8-j;omega) a (ha.kp [0,3,4,5]))
  have N:=m;have G:j=8:=by omega
  subst G;have H:x=qhv l (k+1):=by have hb:=qqq s 8;rw[crc_zero hv]at f;show x=qlc (qf .xor .u32 (qhv l k) (l.getD k 0)) 8;omega
  refine ql (eS (qd (qb (nB (nS ?_)))));refine q7<|yp 3 [] (.q6 ((k:Int)+1) .z)<|yE (fun a ha=>A (k+1,x) _ ⟨by omega,H,h.take 0⟩ (by show l.length-(k+1)<l.length-k;omega) a (ha.kp [0,3,4]))
 have O:=g;have I:k=l.length:=by omega
 refine ql (eS (qd (qb (nS ?_))));refine yx 3<|q9 (yR1 (.int .u32 (qf .xor .u32 y 4294967295)) ?_);exact⟨by rw[hy,I];unfold qcd;rw[show qf .xor .u32 (qhv l l.length) 4294967295=qf .xor .u32 4294967295 (qhv l l.length) by rw[qfM (qld l _) (by decide),qfM (by decide) (qld l _),Nat.xor_comm]],h.ch⟩
theorem qnP (b n cap:Nat)(l:List Int)(w:World)(hr:Rd w (some ⟨b,0,none⟩) (u8s l))(hby:byts l)(hn:l.length<=1000000000)(e:l.length=n):CP 71 [.slice (some ⟨b,0,none⟩) n cap].toArray w (RQ (.int .u32 (qcd l)) w):=by
 subst e;exact qqv b cap l w hr hby hn
theorem bytV_u8 (x:ByteArray):qeI x=u8s (qaY x):=by
 unfold qeI qaY u8s;rw[jG];rfl
theorem bytV_app (l:List Int)(x:ByteArray):u8s l++qeI x=u8s (l++qaY x):=by rw[qaE,bytV_u8]
theorem qcs (a0:Option Addr)(n0 c0:Nat)(xs:List Int)(sg:Int)(a:Option Addr)(m c:Nat)(l:List Int)(w:World)(hr0:Rd w a0 (u8s xs))(hl0:xs.length=n0)(hz0:a0=none->c0=0)(hr:Rd w a (u8s l))(hl:l.length=m)(hz:a=none->c=0)(hby:byts l)(hsg:0<=sg/\sg<=255)(hb:n0+m+200<=1000000000):CP 33 [.slice a0 n0 c0,uX sg,.slice a m c].toArray w fun e w'=> ∃o' n' c',e= .returned (.slice (o'.map at0) n' c')/\Sep w (fun _=>False) w' [qaf tU8 1 o' n' c' (u8s (xs++qP sg l))]:=by
 have n:byts (qW (sg::l)):=qj (qq (by rw[iy];omega)) (qhe hsg hby);have A:=qJ ((m:Int)+1).toNat;have B:=qpA (qW (sg::l));have h:=Sep.nil w;refine yA Tryz.func33 rfl<|yx 1<|ysr<|yp 3 [] (.q6 ((m:Int)+1) .z)<|yo (yC (qb7 none 0 0 ([]) (((m:Int)+1)) _ (Own.nil _ _ _) (by omega) (by omega)) ?_);rintro _ u ⟨C,d,D,rfl,f,E,o⟩;refine⟨_,rfl,?_⟩;rw[iO]at f;have h:=h.app0 f o;have F:(qt (((m:Int)+1)).toNat).length=d:=by have:=h.len1 0;rwa[hZ]at this
 refine yq 5<|yo (zB [uX sg] 5 1 h fun u r h=>?_);refine yo (zA (a2:=(some ⟨r,0,none⟩)) (ys:=u8s ([sg])) 0 1 1 1 (d+1) (u8s (qt (((m:Int)+1)).toNat++[sg])) h (Rd.all (h.b 1)) (qF _) (hz:=(qaE _ _).symm) (hy:=rfl) (hn2:=(fun e=>by cases e)) fun u G H h I=>?_);have J:(qt (((m:Int)+1)).toNat++[sg]).length=(d+1):=by have:=h.len1 0;rwa[hZ]at this
 refine yq 8<|yo (zA (a2:=a) (ys:=u8s (l)) 0 1 m c ((d+1)+m) (u8s (qt (((m:Int)+1)).toNat++[sg]++l)) h (hr.ch h.ch fun _ _ h=>h) (qF _) (hz:=(qaE _ _).symm) (hy:=(by rw[qab];omega)) (hn2:=hz) fun u K g h L=>?_);have s:(qt (((m:Int)+1)).toNat++[sg]++l).length=((d+1)+m):=by have:=h.len1 0;rwa[hZ]at this
 have i:(qt (((m:Int)+1)).toNat++[sg]++l:List Int)=qW (sg::l):=by unfold qW;rw[iy,show(m:Int)+1=(((l.length+1:Nat)):Int) by omega,ik];simp
 rw[i]at h;have j:(qW (sg::l)).length=((d+1)+m):=by rw[<-i];exact s
 refine yz 10<|ysr<|yq 1 ?_;obtain⟨k,rfl⟩:=h.isO 0;refine yo (yQ (h.look (qnP k ((d+1)+m) g (qW (sg::l)) _ (h.brd 0) n (by omega) j)) fun u h=>?_);refine yz 3<|ysr<|yq 1<|yo (zA0 (a2:=a0) (m:=n0) (c2:=c0) (ys:=u8s (xs)) 5 1 1 h (hr0.ch h.ch fun _ _ h=>h) (qF _) (by rw[qab];omega) hz0 fun u M N h O=>?_);have P:(xs).length=n0:=by have:=h.len1 2;rwa[hZ]at this
 refine yq 3<|yo (zA (a2:=(some ⟨k,0,none⟩)) (ys:=u8s (qW (sg::l))) 2 1 ((d+1)+m) g (n0+((d+1)+m)) (u8s (xs++qW (sg::l))) h (h.brd 0) (qF _) (hz:=(qaE _ _).symm) (hy:=(by rw[qab];have:=j;omega)) (hn2:=(fun e=>by cases e)) fun u Q R h S=>?_);have T:(xs++qW (sg::l)).length=(n0+((d+1)+m)):=by have:=h.len1 2;rwa[hZ]at this
 refine yp 15 [] (.p (q:=0<=(8:Int)) (by omega) (.p (q:=0<=(16:Int)) (by omega) (.p (q:=0<=(24:Int)) (by omega) .z)))<|yo (zB [uX (IntKind.wrap .u8 (qcd (qW (sg::l)))),uX (IntKind.wrap .u8 (Int.fdiv (qcd (qW (sg::l))) (2^min (8:Int).toNat (IntKind.bits .u32)))),uX (IntKind.wrap .u8 (Int.fdiv (qcd (qW (sg::l))) (2^min (16:Int).toNat (IntKind.bits .u32)))),uX (IntKind.wrap .u8 (Int.fdiv (qcd (qW (sg::l))) (2^min (24:Int).toNat (IntKind.bits .u32))))] 5 4 h fun u t h=>?_);refine yo (zA (a2:=(some ⟨t,0,none⟩)) (ys:=u8s ([(IntKind.wrap .u8 (qcd (qW (sg::l)))),(IntKind.wrap .u8 (Int.fdiv (qcd (qW (sg::l))) (2^min (8:Int).toNat (IntKind.bits .u32)))),(IntKind.wrap .u8 (Int.fdiv (qcd (qW (sg::l))) (2^min (16:Int).toNat (IntKind.bits .u32)))),(IntKind.wrap .u8 (Int.fdiv (qcd (qW (sg::l))) (2^min (24:Int).toNat (IntKind.bits .u32))))])) 2 1 4 4 ((n0+((d+1)+m))+4) (u8s (xs++qW (sg::l)++[(IntKind.wrap .u8 (qcd (qW (sg::l)))),(IntKind.wrap .u8 (Int.fdiv (qcd (qW (sg::l))) (2^min (8:Int).toNat (IntKind.bits .u32)))),(IntKind.wrap .u8 (Int.fdiv (qcd (qW (sg::l))) (2^min (16:Int).toNat (IntKind.bits .u32)))),(IntKind.wrap .u8 (Int.fdiv (qcd (qW (sg::l))) (2^min (24:Int).toNat (IntKind.bits .u32))))])) h (Rd.all (h.b 3)) (qF _) (hz:=(qaE _ _).symm) (hy:=rfl) (hn2:=(fun e=>by cases e)) fun u v x h U=>?_);have V:(xs++qW (sg::l)++[(IntKind.wrap .u8 (qcd (qW (sg::l)))),(IntKind.wrap .u8 (Int.fdiv (qcd (qW (sg::l))) (2^min (8:Int).toNat (IntKind.bits .u32)))),(IntKind.wrap .u8 (Int.fdiv (qcd (qW (sg::l))) (2^min (16:Int).toNat (IntKind.bits .u32)))),(IntKind.wrap .u8 (Int.fdiv (qcd (qW (sg::l))) (2^min (24:Int).toNat (IntKind.bits .u32))))]).length=((n0+((d+1)+m))+4):=by have:=h.len1 2;rwa[hZ]at this
 refine yz 18<|q9 (yR1 (.slice (v.map at0) ((n0+((d+1)+m))+4) x) ?_);have y:(xs++qW (sg::l)++[(IntKind.wrap .u8 (qcd (qW (sg::l)))),(IntKind.wrap .u8 (Int.fdiv (qcd (qW (sg::l))) (2^min (8:Int).toNat (IntKind.bits .u32)))),(IntKind.wrap .u8 (Int.fdiv (qcd (qW (sg::l))) (2^min (16:Int).toNat (IntKind.bits .u32)))),(IntKind.wrap .u8 (Int.fdiv (qcd (qW (sg::l))) (2^min (24:Int).toNat (IntKind.bits .u32))))]:List Int)=xs++qP sg l:=by unfold qP qa0;simp only[ie];rfl
 rw[y]at h;exact⟨_,_,_,rfl,(h.ord [2]).eqv⟩
theorem qlt (fr t k W H:Int)(d:ByteArray)(w:World)(hB:evB ⟨t,k,d,W,H⟩=true)(h0:0<=fr/\fr<=t):CP 38 [iX fr,.agg #[iX t,iX k,.string d,iX W,iX H]].toArray w fun e w'=> ∃o' n' c',e= .returned (.slice (o'.map at0) n' c')/\Sep w (fun _=>False) w' [qaf tU8 1 o' n' c' (u8s (evI fr ⟨t,k,d,W,H⟩))]:=by
 obtain⟨⟨r,s⟩,v⟩:=qg1 hB;dsimp only at r s v;have a4:0<=k/\k<=3:=by omega
 have a5:0<=W/\0<=H:=by omega
 have a6:=qJ k.toNat;have a7:=qJ (t-fr).toNat;have a8:=qJ W.toNat;have a9:=qJ (d.size:Int).toNat;have h:=Sep.nil w;refine yA Tryz.func38 rfl<|ysr<|yo (zN [iX t,iX k,.string d,iX W,iX H] 66 h fun u aa h=>?_);refine yz 2<|ys<|zDC [7] [0] h fun u h=>ydF [0,1,3,4,5,6] [] h.on (fun u h=>(.l (h.c 0 1) (.l (h.c 0 0) (.q6 (t-fr) .z))))<|yH 2 (yC (qb7 none 0 0 ([]) (k) _ (Own.nil _ _ _) (by omega) (by omega)) ?_);rintro _ u ⟨x,i,y,rfl,j,ab,A⟩;refine⟨_,rfl,?_⟩;rw[iO]at j;have h:=h.app0 j A;have ac:(qt (k).toNat).length=i:=by have:=h.len1 1;rwa[hZ]at this
 refine zHa h<|yK 7 (yC (qb7 x i y (qt (k).toNat) ((t-fr)) _ (h.own 1) (by omega) (by omega)) ?_);rintro _ u ⟨m,b,n,rfl,B,ad,C⟩;refine⟨_,rfl,?_⟩;have h:=h.appI 1 B C;have D:(qt (k).toNat++qt ((t-fr)).toNat).length=b:=by have:=h.len1 1;rwa[hZ]at this
 have E:=D;simp only[hJ]at E;refine q8<|yd [8] [] .z<|yDe (nS ?_);refine ys<|ysr<|yp 3 [] (.l (h.c 0 1) .z)<|ye<|yc (rE k 2) (fun f=>?_) fun f=>?_
 ·have F:=f;refine ys<|zDC [6] [0] h fun u h=>ydF [0,1,2,4,5] [] h.on (fun u h=>(.l (h.c 0 3) (.l (h.c 0 4) .z)))<|yH 3 (yC (qb7 m b n (qt (k).toNat++qt ((t-fr)).toNat) (W) _ (h.own 1) (by omega) (by omega)) ?_);rintro _ u ⟨G,o,I,rfl,J,ae,K⟩;refine⟨_,rfl,?_⟩;have h:=h.appI 1 J K;have L:(qt (k).toNat++qt ((t-fr)).toNat++qt (W).toNat).length=o:=by have:=h.len1 1;rwa[hZ]at this
  have M:=L;simp only[hJ]at M;refine zHs h<|yK 6 (yC (qb7 G o I (qt (k).toNat++qt ((t-fr)).toNat++qt (W).toNat) (H) _ (h.own 1) (by omega) (by omega)) ?_);rintro _ u ⟨N,p,O,rfl,P,af,Q⟩;refine⟨_,rfl,?_⟩;have h:=h.appI 1 P Q;have R:(qt (k).toNat++qt ((t-fr)).toNat++qt (W).toNat++qt (H).toNat).length=p:=by have:=h.len1 1;rwa[hZ]at this
  have S:=R;simp only[hJ]at S;refine q8<|yd [7] [] .z<|yDe (nS ?_);refine q9 (rS (yR1 (.slice (N.map at0) p O) ?_));have g:(qt (k).toNat++qt ((t-fr)).toNat++qt (W).toNat++qt (H).toNat:List Int)=evI fr ⟨t,k,d,W,H⟩:=by unfold evI;dsimp only;rw[if_pos F];simp only[ie]
  rw[g]at h;exact⟨_,_,_,rfl,(h.ord [1]).eqv⟩
 have T:=f;refine yk<|ys<|zDC [7] [0] h fun u h=>ydF [0,1,2,3,5,6] [] h.on (fun u h=>(.l (h.c 0 2) (.l (h.c 0 2) .z)))<|yH 4 (yC (qb7 m b n (qt (k).toNat++qt ((t-fr)).toNat) (((d).size:Int)) _ (h.own 1) (by omega) (by omega)) ?_);rintro _ u ⟨U,a,V,rfl,X,ag,Y⟩;refine⟨_,rfl,?_⟩;have h:=h.appI 1 X Y;have Z:(qt (k).toNat++qt ((t-fr)).toNat++qt (((d).size:Int)).toNat).length=a:=by have:=h.len1 1;rwa[hZ]at this
 have a0:=Z;simp only[hJ]at a0;refine zHs h ?_;refine yK 7 (e_appS 5 U a V (u8s (qt (k).toNat++qt ((t-fr)).toNat++qt (((d).size:Int)).toNat)) d (some 31) (a+(d).size) rfl (by kernel_rfl) (h.own 1) (by constructor<;>first|omega|(simp only[maxLen];omega)) ?_);intro u a1 a2 q a3;rw[bytV_app]at q;have h:=h.appI 1 q a3;have ah:(qt (k).toNat++qt ((t-fr)).toNat++qt (((d).size:Int)).toNat++qaY d).length=(a+(d).size):=by have:=h.len1 1;rwa[hZ]at this
 refine q8<|yd [8] [] .z<|yDe (nS ?_);refine q9 (yR1 (.slice (a1.map at0) (a+(d).size) a2) ?_);have g:(qt (k).toNat++qt ((t-fr)).toNat++qt (((d).size:Int)).toNat++qaY d:List Int)=evI fr ⟨t,k,d,W,H⟩:=by unfold evI;dsimp only;rw[if_neg T];unfold qbk;rw[ik];simp only[ie]
 rw[g]at h;exact⟨_,_,_,rfl,(h.ord [1]).eqv⟩
theorem qqw {w:World}{b o:Nat}{kx:Nat->Option Addr×Nat×Nat}{l:List Ky}(h:Rd w (some ⟨b,o,none⟩) (qay kx l 0))(x:Int)(i:Nat)(hx:x.toNat=i)(hi:i<l.length):w.cell? ⟨b,o+x.toNat*2,none⟩=some (iX (gky l i).after)/\w.cell? ⟨b,o+x.toNat*2+1,none⟩=some (.slice (kx i).1 (kx i).2.1 (kx i).2.2):=by
 obtain⟨e,a⟩:=qf4 kx l 0 i hi;rw[iL]at a;have c:=h.2 ⟨b,o,none⟩ rfl _ _ e;have d:=h.2 ⟨b,o,none⟩ rfl _ _ a;rw[add_pl]at c d;rw[hx];exact⟨c,d⟩
theorem qkE {T0:TS}{r:Rc}(a0:Option Addr)(n0 c0:Nat)(ea:Option Addr)(ec:Nat)(ka:Option Addr)(kc:Nat)(kx:Nat->Option Addr×Nat×Nat)(wh:Bool)(w:World)(hs:Rd w a0 (u8s r.start))(hsl:r.start.length=n0)(hsz:a0=none->c0=0)(he:Rd w ea (qdi r.evs))(hez:r.evs.length=0\/ ∃b off,ea=some ⟨b,off,none⟩)(hk:Rd w ka (qay kx r.keys 0))(hkz:r.keys.length=0\/ ∃b off,ka=some ⟨b,off,none⟩)(hkr:∀i,i<r.keys.length->Rd w (kx i).1 (u8s (gky r.keys i).state)/\(gky r.keys i).state.length=(kx i).2.1/\((kx i).1=none->(kx i).2.2=0))(hOk:RcOk T0 r)(hW:RcB r)(hen:r.evs.length<=1800000/\r.keys.length<=1800000):CP 54 [.slice a0 n0 c0,.slice ea r.evs.length ec,.slice ka r.keys.length kc,.bool wh].toArray w fun e w'=> ∃o' n' c',e= .returned (.slice (o'.map at0) n' c')/\Sep w (fun _=>False) w' [qaf tU8 1 o' n' c' (u8s (qbA r wh))]:=by
 have bo:=hW.st.2;have h:=Sep.nil w;refine yA Tryz.func54 rfl<|yx 1<|ysr<|yq 1<|yo (yC (qcs none 0 0 ([]) 83 a0 n0 c0 (r.start) _ (Rd.nil _ _) rfl (fun _=>rfl) (hs.ch h.ch fun _ _ h=>h) hsl hsz hW.st.1 (by decide) (by omega)) ?_);rintro _ u ⟨Q,G,R,rfl,ai⟩;refine⟨_,rfl,?_⟩;have h:=h.join ai;rw[iO]at h;have bp:=qah 83 (r.start);have bq:(qP 83 (r.start)).length=G:=by have:=h.len1 0;rwa[hZ]at this
 refine yz 3<|yx 1<|yx 2<|ys<|yx 1<|qa ?_;have h:=(h.ord [0]).own0 tU8 1;refine qZ [1,2,3,9,10,11,12,13] (f':=[(1,.slice ea r.evs.length ec),(2,.slice ka r.keys.length kc),(3,.bool wh),(9,.slice (Q.map at0) G R),(10,nX),(11,iX 0),(12,iX 0),(13,iX 0)])<|qy (σ:=Nat×Int×Int×Option Nat×Nat×Nat×Option Nat×Nat×Nat) (fun⟨i,fr,kk,o,n,c,p,m,q⟩=>[(1,.slice ea r.evs.length ec),(2,.slice ka r.keys.length kc),(3,.bool wh),(9,.slice (o.map at0) n c),(10,.slice (p.map at0) m q),(11,iX fr),(12,iX kk),(13,iX ((i:Nat):Int))]) (fun⟨i,fr,kk,o,n,c,p,m,q⟩ u=>i<=r.evs.length+1/\(i<=r.evs.length->fr=qY r.evs i)/\kk=(((qk r i).k:Nat):Int)/\Sep w (fun _=>False) u [qaf tU8 1 o n c (u8s (qk r i).out),qaf tU8 1 p m q (u8s (qff r (qk r i).pos (qk r i).k))]) (fun⟨i,fr,kk,o,n,c,p,m,q⟩=>r.evs.length+1-i) (0,0,0,Q,G,R,none,0,0) rfl ?_ ?_
 ·exact⟨ip _,(fun _=>rfl),rfl,h.take 2⟩
 intro q0 u ak br S;obtain⟨i,fr,kk,o,n,c,p,m,q⟩:=q0;obtain⟨hi,B,T,h⟩:=ak;have al:((qk r i).out).length=n:=by have:=h.len1 0;rwa[hZ]at this
 have am:((qff r (qk r i).pos (qk r i).k)).length=m:=by have:=h.len1 1;rwa[hZ]at this
 have bs:=qqu hW i 0;refine ys<|yx 4<|yc (rM ((i:Nat):Int) (r.evs.length:Int)) (fun H=>?_) fun H=>?_
 ·have bt:=H;refine yk<|ys<|qa<|ys<|yx 3<|qa ?_;have h:=h.ord [0,1];have h:=h.eqv (m:=[qaf tU8 1 o n c (u8s (qfk r i 0).out),qaf tU8 1 p m q (u8s (qj7 r i 0))]) (e:=by unfold qj7;rw[qmA];rfl);refine qZ [1,2,3,9,10,11,12,13,25,26,27] (f':=[(1,.slice ea r.evs.length ec),(2,.slice ka r.keys.length kc),(3,.bool wh),(9,.slice (o.map at0) n c),(10,.slice (p.map at0) m q),(11,iX fr),(12,iX kk),(13,iX ((i:Nat):Int)),(25,.slice ka r.keys.length kc),(26,iX (r.keys.length:Int)),(27,iX 0)])<|qy (σ:=Nat×Int×Option Nat×Nat×Nat×Option Nat×Nat×Nat) (fun⟨j,kj,t,d,v,s,g,f⟩=>[(1,.slice ea r.evs.length ec),(2,.slice ka r.keys.length kc),(3,.bool wh),(9,.slice (t.map at0) d v),(10,.slice (s.map at0) g f),(11,iX fr),(12,iX kj),(13,iX ((i:Nat):Int)),(25,.slice ka r.keys.length kc),(26,iX (r.keys.length:Int)),(27,iX (j:Int))]) (fun⟨j,kj,t,d,v,s,g,f⟩ u=>j<=r.keys.length/\kj=(((qfk r i j).k:Nat):Int)/\Sep w (fun _=>False) u [qaf tU8 1 t d v (u8s (qfk r i j).out),qaf tU8 1 s g f (u8s (qj7 r i j))]) (fun⟨j,kj,t,d,v,s,g,f⟩=>r.keys.length-j) (0,kk,o,n,c,p,m,q) rfl ?_ ?_
  ·exact⟨ip _,by rw[qmA];exact T,h.take 2⟩
  intro f u an bu U;obtain⟨j,kj,t,d,v,s,g,f⟩:=f;obtain⟨hj,C,h⟩:=an;have D:((qfk r i j).out).length=d:=by have:=h.len1 0;rwa[hZ]at this
  have ao:((qj7 r i j)).length=g:=by have:=h.len1 1;rwa[hZ]at this
  have ap:=qqu hW i j;have bv:=mid_k hOk (i:=i) (by omega) j;have V:=qmB r (qfk r i j).pos (qfk r i j).k;have bw:(qj7 r i j).length<=30*(qfk r i j).k+10:=V;refine yx 1<|ys<|yc (rL (j:Int) (r.keys.length:Int)) (fun I=>?_) fun I=>?_
  ·have bx:=I;obtain⟨kb,ko,rfl⟩:=hkz.resolve_left (by omega);have aq:=hW.ks j (by omega);obtain⟨ar,bz,au⟩:=hkr j (by omega);refine yk<|ys<|qa<|ysr<|yp 2 [] (.i (j:Int) (r.keys.length) (.m (qqw (hk.ch h.ch fun _ _ h=>h) ((j:Int)) j (by omega) (by omega)).1 (.m (qqw (hk.ch h.ch fun _ _ h=>h) ((j:Int)) j (by omega) (by omega)).2 (.e .z))))<|yo (zN [iX 0,nX] 107 h fun u bA h=>?_);refine yo (zs h 2 fun u h=>?_);refine ye<|ysr<|yp 4 [] (.l (h.c 2 0) .z)<|ye<|yc (rE (((gky r.keys j).after:Nat):Int) ((i:Nat):Int)) (fun J=>?_) fun J=>?_
   ·have bB:=J;have W:(gky r.keys j).after=i:=by omega
    have hY:=qqt hOk (i:=i) (j:=j) (by omega) (by omega) W;have av:(((qk r i).out.length:Nat))=d:=by rw[<-hY.2.1];exact D
    have aw:=hW.tm (n:=i) (by omega);rw[<-B (by omega)]at aw;have ax:=qJ (((i:Nat):Int)).toNat;have bC:=qJ fr.toNat;have bD:=qJ ((d:Int)).toNat;have bE:=qJ ((((gky r.keys j).after:Nat):Int)).toNat;refine ysr<|yq 2<|yo (yC (qb7 s g f ((qj7 r i j)) (((i:Nat):Int)) _ (h.own 1) (by omega) (by omega)) ?_);rintro _ u ⟨ay,X,az,rfl,aA,bF,aB⟩;refine⟨_,rfl,?_⟩;have h:=h.appI 1 aA aB;have aC:((qj7 r i j)++qt (((i:Nat):Int)).toNat).length=X:=by have:=h.len1 1;rwa[hZ]at this
    have aD:=aC;simp only[hJ]at aD;refine yq 4<|yo (yC (qb7 ay X az ((qj7 r i j)++qt (((i:Nat):Int)).toNat) (fr) _ (h.own 1) (by omega) (by omega)) ?_);rintro _ u ⟨aE,Y,aF,rfl,aG,bG,aH⟩;refine⟨_,rfl,?_⟩;have h:=h.appI 1 aG aH;have aI:((qj7 r i j)++qt (((i:Nat):Int)).toNat++qt (fr).toNat).length=Y:=by have:=h.len1 1;rwa[hZ]at this
    have aJ:=aI;simp only[hJ]at aJ;refine yq 7<|yo (yC (qb7 aE Y aF ((qj7 r i j)++qt (((i:Nat):Int)).toNat++qt (fr).toNat) ((d:Int)) _ (h.own 1) (by omega) (by omega)) ?_);rintro _ u ⟨Z,K,a1,rfl,aK,bH,aL⟩;refine⟨_,rfl,?_⟩;have h:=h.appI 1 aK aL;have aM:((qj7 r i j)++qt (((i:Nat):Int)).toNat++qt (fr).toNat++qt ((d:Int)).toNat).length=K:=by have:=h.len1 1;rwa[hZ]at this
    have aN:=aM;simp only[hJ]at aN;refine yz 9<|ysr<|yp 3 [] (.q6 (kj+1) .z)<|ye<|zDC [6,7] [0,1,2] h fun u h=>ydF [0,1,2,4,5] [] h.on (fun u h=>(.l (h.c 2 0) (.l (h.c 2 1) .z)))<|yH 3 (yC (qb7 none 0 0 ([]) ((((gky r.keys j).after:Nat):Int)) _ (Own.nil _ _ _) (by omega) (by omega)) ?_);rintro _ u ⟨bI,E,bJ,rfl,a3,bK,aO⟩;refine⟨_,rfl,?_⟩;rw[iO]at a3;have h:=h.app0 a3 aO;have bL:(qt ((((gky r.keys j).after:Nat):Int)).toNat).length=E:=by have:=h.len1 3;rwa[hZ]at this
    refine zHa h<|yK 6 (zA (a2:=(kx j).1) (ys:=u8s ((gky r.keys j).state)) 3 1 (kx j).2.1 (kx j).2.2 (E+(kx j).2.1) (u8s (qt ((((gky r.keys j).after:Nat):Int)).toNat++(gky r.keys j).state)) h (ar.ch h.ch fun _ _ h=>h) (qF _) (hz:=(qaE _ _).symm) (hy:=(by rw[qab];omega)) (hn2:=au) fun u aP aQ h bM=>?_);have a4:(qt ((((gky r.keys j).after:Nat):Int)).toNat++(gky r.keys j).state).length=(E+(kx j).2.1):=by have:=h.len1 3;rwa[hZ]at this
    refine q8 ?_;have aR:=a4;simp only[hJ]at aR;refine yK 7 (yC (qcs (t.map at0) d v ((qfk r i j).out) 75 (aP.map at0) (E+(kx j).2.1) aQ (qt ((((gky r.keys j).after:Nat):Int)).toNat++(gky r.keys j).state) _ (h.ownRd' 0) D (h.own 0).nz (h.ownRd' 3) a4 (h.own 3).nz (qj (qq (by omega)) aq.1) (by decide) (by omega)) ?_);rintro _ u ⟨a5,L,a6,rfl,aS⟩;refine⟨_,rfl,?_⟩;have h:=h.join aS;have aT:=qah 75 (qt ((((gky r.keys j).after:Nat):Int)).toNat++(gky r.keys j).state);simp only[hJ]at aT;have bN:((qfk r i j).out++qP 75 (qt ((((gky r.keys j).after:Nat):Int)).toNat++(gky r.keys j).state)).length=L:=by have:=h.len1 4;rwa[hZ]at this
    refine q8<|yd [8] [] .z<|yDe (nB (nS ?_));refine q7<|yp 2 [] (.q6 ((j:Int)+1) .z) ?_;have h:=h.nrm 2 [iX (((gky r.keys j).after:Nat):Int),.slice (kx j).1 (kx j).2.1 (kx j).2.2];have aU:=mid_j hOk (i:=i) (j:=j) (by omega) (by omega) W;have h:=h.ord [4,1];have h:=h.eqv (m:=[qaf tU8 1 a5 L a6 (u8s (qfk r i (j+1)).out),qaf tU8 1 Z K a1 (u8s (qj7 r i (j+1)))]) (e:=by rw[aU,hY.2.2,hY.2.1,B (by omega)];simp only[ik,ie,av];rfl);refine yE (fun a ha=>U (j+1,(kj+1),a5,L,a6,Z,K,a1) _ ⟨by omega,by have aV:=C;rw[hY.2.1,hY.1]at aV;rw[hY.2.2];dsimp only;omega,h.take 2⟩ (by show r.keys.length-(j+1)<r.keys.length-j;omega) a (ha.kp [1,2,3,9,10,11,12,13,25,26,27]))
   have bO:=J;have aW:¬(gky r.keys j).after=i:=by omega
   refine qm (nB (nS ?_));refine q7<|yp 2 [] (.q6 ((j:Int)+1) .z) ?_;have h:=h.nrm 2 [iX (((gky r.keys j).after:Nat):Int),.slice (kx j).1 (kx j).2.1 (kx j).2.2];have a7:=mid_no hOk (i:=i) (j:=j) (by omega) (by omega) aW;have h:=h.ord [0,1];have h:=h.eqv (m:=[qaf tU8 1 t d v (u8s (qfk r i (j+1)).out),qaf tU8 1 s g f (u8s (qj7 r i (j+1)))]) (e:=by unfold qj7;rw[a7];rfl);refine yE (fun a ha=>U (j+1,kj,t,d,v,s,g,f) _ ⟨by omega,by rw[a7];exact C,h.take 2⟩ (by show r.keys.length-(j+1)<r.keys.length-j;omega) a (ha.kp [1,2,3,9,10,11,12,13,25,26,27]))
  have bP:=I;obtain rfl:j=r.keys.length:=by omega
  unfold qj7 at h;rw[qls hOk (by omega)]at h C ap;have a8:=C;rw[qls hOk (by omega)]at D;rw[show qj7 r i r.keys.length=qff r (qfk r i r.keys.length).pos (qfk r i r.keys.length).k from rfl,qls hOk (by omega)]at ao;refine ql (eS (qd (qb (nS ?_))));refine yx 4<|yc (rL ((i:Nat):Int) (r.evs.length:Int)) (fun M=>?_) fun M=>?_
  ·have bQ:=M;obtain⟨eb,eo,rfl⟩:=hez.resolve_left (by omega);have y:=hW.ev i (by omega);rw[<-B (by omega)]at y;have bR:=qeg (fr:=fr) y.1;refine ysr<|yp 6 [] (.i ((i:Nat):Int) (r.evs.length) (.m (qbe (he.ch h.ch fun _ _ h=>h) (((i:Nat):Int)) i 0 _) (.m (qbe (he.ch h.ch fun _ _ h=>h) (((i:Nat):Int)) i 1 _) (.m (qbe (he.ch h.ch fun _ _ h=>h) (((i:Nat):Int)) i 2 _) (.m (qbe (he.ch h.ch fun _ _ h=>h) (((i:Nat):Int)) i 3 _) (.m (qbe (he.ch h.ch fun _ _ h=>h) (((i:Nat):Int)) i 4 _) (.e .z)))))))<|yo (yC (qlt fr (ge r.evs i).time (ge r.evs i).kind (ge r.evs i).w (ge r.evs i).h (ge r.evs i).data _ y.1 ⟨y.2.1,y.2.2⟩) ?_);rintro _ u ⟨aX,a9,aY,rfl,aZ⟩;refine⟨_,rfl,?_⟩;have h:=h.join aZ;have b0:(evI fr (ge r.evs i)).length=a9:=by have:=h.len1 2;rwa[hZ]at this
   refine yo (yC (qcs (t.map at0) d v ((qbB r i (qk r i)).out) 69 (aX.map at0) a9 aY (evI fr (ge r.evs i)) _ (h.ownRd' 0) D (h.own 0).nz (h.ownRd' 2) b0 (h.own 2).nz (qdX y.1 y.2.1) (by decide) (by omega)) ?_);rintro _ u ⟨aa,N,ab,rfl,b1⟩;refine⟨_,rfl,?_⟩;have h:=h.join b1;have bS:=qah 69 (evI fr (ge r.evs i));have bT:((qbB r i (qk r i)).out++qP 69 (evI fr (ge r.evs i))).length=N:=by have:=h.len1 3;rwa[hZ]at this
   refine yz 9<|q7<|yp 6 [] (.i ((i:Nat):Int) (r.evs.length) (.l (qbe (he.ch h.ch fun _ _ h=>h) (((i:Nat):Int)) i 0 _) .z))<|yE (nB (nS ?_));refine q7<|yp 3 [] (.q6 (((i:Nat):Int)+1) .z) ?_;have A:qk r (i+1)=⟨(qbB r i (qk r i)).out++qP 69 (evI (qY r.evs i) (ge r.evs i)),(qbB r i (qk r i)).pos,(qbB r i (qk r i)).k⟩:=if_pos (by omega);rw[<-B (by omega)]at A;have h:=h.ord [3,1];have h:=h.eqv (m:=[qaf tU8 1 aa N ab (u8s (qk r (i+1)).out),qaf tU8 1 s g f (u8s (qff r (qk r (i+1)).pos (qk r (i+1)).k))]) (e:=by rw[A];rfl);refine yE (fun a ha=>S (i+1,(ge r.evs i).time,kj,aa,N,ab,s,g,f) _ ⟨by omega,(fun b2=>by rw[ev_time]),by rw[A];exact a8,h.take 2⟩ (by show r.evs.length+1-(i+1)<r.evs.length+1-i;omega) a (ha.kp [1,2,3,9,10,11,12,13]))
  have bU:=M;refine qm (nB (nS ?_));refine q7<|yp 3 [] (.q6 (((i:Nat):Int)+1) .z) ?_;have A:qk r (i+1)=(qbB r i (qk r i)):=if_neg (by omega);have h:=h.ord [0,1];have h:=h.eqv (m:=[qaf tU8 1 t d v (u8s (qk r (i+1)).out),qaf tU8 1 s g f (u8s (qff r (qk r (i+1)).pos (qk r (i+1)).k))]) (e:=by rw[A];rfl);refine yE (fun a ha=>S (i+1,fr,kj,t,d,v,s,g,f) _ ⟨by omega,(fun b2=>by omega),by rw[A];exact a8,h.take 2⟩ (by show r.evs.length+1-(i+1)<r.evs.length+1-i;omega) a (ha.kp [1,2,3,9,10,11,12,13]))
 have bV:=H;obtain rfl:i=r.evs.length+1:=by omega
 have b3:=qgu hOk (i:=r.evs.length+1) (iD _);have V:=qmB r (qp r).pos (qp r).k;have ax:=qJ kk.toNat;have bW:(qp r).k<=r.keys.length:=b3.1;have b4:kk=(((qp r).k:Nat):Int):=T;have b5:kk.toNat=(qp r).k:=by omega
 have ac:((qp r).out).length=n:=al;have b6:((qff r (qp r).pos (qp r).k)).length=m:=am;refine ql (eS (qd (qb (nS ?_))));refine ys<|yx 2<|yc (rN (rY wh)) (fun O=>?_) fun O=>?_
 ·have b7:=O;obtain rfl:wh=false:=b7;refine yx 2<|q9 (rS (yR1 (.slice (o.map at0) n c) ?_));have P:((qp r).out:List Int)=qbA r false:=(if_neg jR).symm;rw[P]at h;exact⟨_,_,_,rfl,(h.ord [0]).eqv⟩
 have b8:=O;obtain rfl:wh=true:=b8;refine yk<|yx 3<|ysr<|yq 2<|yo (yC (qb7 none 0 0 ([]) (kk) _ (Own.nil _ _ _) (by omega) (by omega)) ?_);rintro _ u ⟨bX,F,bY,rfl,ad,bZ,b9⟩;refine⟨_,rfl,?_⟩;rw[iO]at ad;have h:=h.app0 ad b9;have c2:(qt (kk).toNat).length=F:=by have:=h.len1 2;rwa[hZ]at this
 refine yq 4<|yo (zA (a2:=(p.map at0)) (ys:=u8s ((qff r (qp r).pos (qp r).k))) 2 1 m q (F+m) (u8s (qt (kk).toNat++(qff r (qp r).pos (qp r).k))) h (h.ownRd' 1) (qF _) (hz:=(qaE _ _).symm) (hy:=(by rw[qab];have:=b6;omega)) (hn2:=(h.own 1).nz) fun u ba bb h c3=>?_);have ae:(qt (kk).toNat++(qff r (qp r).pos (qp r).k)).length=(F+m):=by have:=h.len1 2;rwa[hZ]at this
 have bc:byts (qt kk.toNat++qff r (qp r).pos (qp r).k):=by rw[b5];exact qnO hW (by omega)
 have bd:=ae;simp only[hJ]at bd;refine yo (yC (qcs (o.map at0) n c ((qp r).out) 73 (ba.map at0) (F+m) bb (qt (kk).toNat++(qff r (qp r).pos (qp r).k)) _ (h.ownRd' 0) ac (h.own 0).nz (h.ownRd' 2) ae (h.own 2).nz bc (by decide) (by omega)) ?_);rintro _ u ⟨bf,af,bg,rfl,bh⟩;refine⟨_,rfl,?_⟩;have h:=h.join bh;have bi:=qah 73 (qt (kk).toNat++(qff r (qp r).pos (qp r).k));simp only[hJ]at bi;have ag:((qp r).out++qP 73 (qt (kk).toNat++(qff r (qp r).pos (qp r).k))).length=af:=by have:=h.len1 3;rwa[hZ]at this
 refine yz 7<|ysr ?_;refine yp 12 [] (.p (q:=0<=((n:Int):Int)/\0<(256:Int)) (by constructor<;>omega) (.q6 ((n:Int)/256) (.p (q:=0<=((n:Int):Int)/\0<(65536:Int)) (by constructor<;>omega) (.q6 ((n:Int)/65536) (.p (q:=0<=((n:Int):Int)/\0<(16777216:Int)) (by constructor<;>omega) (.q6 ((n:Int)/16777216) .z)))))) ?_;refine yo (zB [uX (IntKind.wrap .u8 (n:Int)),uX (IntKind.wrap .u8 ((n:Int)/256)),uX (IntKind.wrap .u8 ((n:Int)/65536)),uX (IntKind.wrap .u8 ((n:Int)/16777216))] 5 4 h fun u bj h=>?_);have bk:=ag;simp only[hJ]at bk;refine yo (yC (qcs (bf.map at0) af bg ((qp r).out++qP 73 (qt (kk).toNat++(qff r (qp r).pos (qp r).k))) 70 (some ⟨bj,0,none⟩) 4 4 ([(IntKind.wrap .u8 (n:Int)),(IntKind.wrap .u8 ((n:Int)/256)),(IntKind.wrap .u8 ((n:Int)/65536)),(IntKind.wrap .u8 ((n:Int)/16777216))]) _ (h.ownRd' 3) ag (h.own 3).nz (Rd.all (h.b 4)) rfl (fun e=>by cases e) (fun x hx=>by simp only[jb,jg,or_false]at hx;rcases hx with rfl|rfl|rfl|rfl<;>exact qgk _) (by decide) (by omega)) ?_);rintro _ u ⟨bl,ah,bm,rfl,bn⟩;refine⟨_,rfl,?_⟩;have h:=h.join bn;have c4:=qah 70 ([(IntKind.wrap .u8 (n:Int)),(IntKind.wrap .u8 ((n:Int)/256)),(IntKind.wrap .u8 ((n:Int)/65536)),(IntKind.wrap .u8 ((n:Int)/16777216))])
 have c5:((qp r).out++qP 73 (qt (kk).toNat++(qff r (qp r).pos (qp r).k))++qP 70 ([(IntKind.wrap .u8 (n:Int)),(IntKind.wrap .u8 ((n:Int)/256)),(IntKind.wrap .u8 ((n:Int)/65536)),(IntKind.wrap .u8 ((n:Int)/16777216))])).length=ah:=by have:=h.len1 5;rwa[hZ]at this
 refine yz 15<|q9 (yR1 (.slice (bl.map at0) ah bm) ?_);have P:((qp r).out++qP 73 (qt (kk).toNat++(qff r (qp r).pos (qp r).k))++qP 70 ([(IntKind.wrap .u8 (n:Int)),(IntKind.wrap .u8 ((n:Int)/256)),(IntKind.wrap .u8 ((n:Int)/65536)),(IntKind.wrap .u8 ((n:Int)/16777216))]):List Int)=qbA r true:=by unfold qbA;rw[if_pos rfl,idx_all,qj8,qj8,qj8,b4,ik,<-ac,ie];rfl
 rw[P]at h;exact⟨_,_,_,rfl,(h.ord [5]).eqv⟩
theorem qqx {kx:Nat->Option Addr×Nat×Nat}{l:List Ky}{k:Nat}(h:k<l.length):qay kx (l.take k) 0++[iX (((gky l k).after:Nat):Int),.slice (kx k).1 (kx k).2.1 (kx k).2.2]=qay kx (l.take (k+1)) 0:=by
 rw[qmo h,qha,iL,io,jB (by omega)]
theorem Own.kz {w:World}{e:TypeId}{o:Option Nat}{n c:Nat}{x:List Value}(h:Own w e 2 o n c x):n=0\/ ∃b off,o.map at0=some ⟨b,off,none⟩:=by
 cases o with
 |none=>exact .inl (h.2.2.2.1 rfl).1
 |some q=>exact .inr ⟨q,0,rfl⟩
theorem qfg (b1:Nat){sa1:Option Addr}{sn1 sc1:Nat}{eo1:Option Nat}{ec1:Nat}{ko1:Option Nat}{kc1:Nat}{kx1:Nat->Option Addr×Nat×Nat}{r1:Rc}{T0:TS}(wh:Bool)(w:World)(hR1:RcRd w b1 sa1 sn1 sc1 eo1 ec1 ko1 kc1 kx1 r1)(hOk:RcOk T0 r1)(hW:RcB r1)(hen:r1.evs.length<=1800000/\r1.keys.length<=1800000):CP 26 [pX b1,.bool wh].toArray w fun e w'=> ∃o' n' c',e= .returned (.slice (o'.map at0) n' c')/\Sep w (fun _=>False) w' [qaf tU8 1 o' n' c' (u8s (qbA r1 wh))]:=by
 have h:=Sep.nil w;refine yA Tryz.func26 rfl<|yx 1<|yx 1<|ys<|ysr<|yp 6 [] (.l (hR1.ch h.ch).c2 .z)<|ye<|qa<|qZ [0,1,5,11,12,13] (f':=[(0,pX b1),(1,.bool wh),(5,nX),(11,.slice (ko1.map at0) r1.keys.length kc1),(12,iX (r1.keys.length:Int)),(13,iX 0)])<|qy (σ:=Nat×Option Nat×Nat) (fun⟨k,o,c⟩=>[(0,pX b1),(1,.bool wh),(5,.slice (o.map at0) k c),(11,.slice (ko1.map at0) r1.keys.length kc1),(12,iX (r1.keys.length:Int)),(13,iX (k:Int))]) (fun⟨k,o,c⟩ u=>k<=r1.keys.length/\Sep w (fun _=>False) u [qaf 107 2 o k c (qay kx1 (r1.keys.take k) 0)]) (fun⟨k,o,c⟩=>r1.keys.length-k) (0,none,0) rfl ?_ ?_
 ·exact⟨ip _,h.own0 107 2⟩
 intro q u g v j;obtain⟨k,o,c⟩:=q;obtain⟨hk,h⟩:=g;refine yx 1<|ys<|yc (rL (k:Int) (r1.keys.length:Int)) (fun d=>?_) fun d=>?_
 ·have y:=d;obtain⟨A,rfl⟩:=(hR1.ch h.ch).kb (by omega);refine yk<|ys<|qa<|ysr<|yp 2 [] (.i (k:Int) (r1.keys.length) (.m ((hR1.ch h.ch).kyx (x:=(k:Int)) (i:=k) (by omega) (by omega)).1 (.m ((hR1.ch h.ch).kyx (x:=(k:Int)) (i:=k) (by omega) (by omega)).2 (.e .z))))<|yo (zN [iX 0,nX] 51 h fun u B h=>?_);refine yo (zs h 1 fun u h=>?_);refine ye<|q7<|yp 6 [] (.l (h.c 1 0) (.l (h.c 1 1) .z))<|yo (zB [iX (((gky r1.keys k).after:Nat):Int),.slice (kx1 k).1 (kx1 k).2.1 (kx1 k).2.2] 107 1 h fun u C h=>?_);have h:=h.nrm 1 [iX (((gky r1.keys k).after:Nat):Int),.slice (kx1 k).1 (kx1 k).2.1 (kx1 k).2.2];refine yo (zA 0 32 1 1 (k+1) (qay kx1 (r1.keys.take (k+1)) 0) h (Rd.all (h.b 2)) rfl (hz:=qqx (by omega)) fun u n p h D=>?_);refine yq 9<|yE (nB (nS ?_));refine q7<|yp 2 [] (.q6 ((k:Int)+1) .z)<|yE (fun a ha=>j (k+1,n,p) _ ⟨by omega,h.take 1⟩ (by show r1.keys.length-(k+1)<r1.keys.length-k;omega) a (ha.kp [0,1,5,11,12,13]))
 have E:=d;obtain rfl:k=r1.keys.length:=by omega
 rw[jf]at h;refine ql (eS (qd (qb (nS ?_))));refine ys<|zD [10] h fun u h=>yd (uL 0 10) [] (.l (hR1.ch h.ch).c0 (.l (hR1.ch h.ch).c1 .z))<|yK 10 (yC (qkE sa1 sn1 sc1 (eo1.map at0) ec1 (o.map at0) c kx1 wh _ (hR1.ch h.ch).st (hR1.ch h.ch).sl (hR1.ch h.ch).sz (hR1.ch h.ch).ev (hR1.ch h.ch).ez (h.own 0).rd (h.own 0).kz ((hR1.ch h.ch).kr) hOk hW hen) ?_);rintro _ u ⟨r,f,s,rfl,t⟩;refine⟨_,rfl,?_⟩;have h:=h.join t;have F:(qbA r1 wh).length=f:=by have:=h.len1 1;rwa[hZ]at this
 refine q8<|yd [11] [] .z<|yDe (nS ?_);refine q9 (yR1 (.slice (r.map at0) f s) ?_);exact⟨_,_,_,rfl,(h.ord [1]).eqv⟩
theorem qqy {s s':Sc}{f:List Int}(h:qaQ s f=some s'):(∃m,s'.r.evs=s.r.evs++m)/\(∃m,s'.r.keys=s.r.keys++m)/\s'.r.start=s.r.start:=by
 unfold qaQ at h;split at h
 ·cases h
 ·split at h
  ·unfold qg3 at h
   split at h
   ·obtain rfl:=ia h;exact⟨⟨_,rfl⟩,⟨[],(iF _).symm⟩,rfl⟩
   ·cases h
  ·split at h
   ·unfold qks at h
    split at h
    ·obtain rfl:=ia h;exact⟨⟨[],(iF _).symm⟩,⟨_,rfl⟩,rfl⟩
    ·cases h
   ·cases h
theorem qdJ:∀{n:Nat} {s s':Sc} {l:List Int} {a k:Nat},qc2 n s l a=(s',k)->(∃m,s'.r.evs=s.r.evs++m)/\(∃m,s'.r.keys=s.r.keys++m)/\s'.r.start=s.r.start
 |0,s,s',l,a,k,h=>by obtain⟨rfl,_⟩:=il h;exact⟨⟨[],(iF _).symm⟩,⟨[],(iF _).symm⟩,rfl⟩
 |n+1,s,s',l,a,k,h=>by
  rw[qc2]at h
  split at h
  ·obtain⟨rfl,_⟩:=il h;exact⟨⟨[],(iF _).symm⟩,⟨[],(iF _).symm⟩,rfl⟩
  ·split at h
   ·obtain⟨rfl,_⟩:=il h;exact⟨⟨[],(iF _).symm⟩,⟨[],(iF _).symm⟩,rfl⟩
   ·rename_i s1 h1
    obtain⟨⟨m1,e1⟩,⟨m2,e2⟩,e3⟩:=qqy h1
    obtain⟨⟨m3,e4⟩,⟨m4,e5⟩,e6⟩:=qdJ h
    exact⟨⟨m1++m3,by rw[e4,e1,ie]⟩,⟨m2++m4,by rw[e5,e2,ie]⟩,e6.trans e3⟩
theorem pre_ev {s':Sc}{rs:Rc}{U:TS}{ev:Ev}{n a k:Nat}{l:List Int}(h:qc2 n ⟨⟨rs.start,rs.evs++[ev],rs.keys⟩,U⟩ l a=(s',k)):rs.evs.length<s'.r.evs.length/\ge s'.r.evs rs.evs.length=ev:=by
 obtain⟨⟨m,e⟩,_,_⟩:=qdJ h;dsimp only at e;rw[e,ie];refine⟨by rw[hJ,hJ,j1];omega,?_⟩;simp[ge]
theorem pre_ky {s':Sc}{rs:Rc}{U:TS}{q:Ky}{n a k:Nat}{l:List Int}(h:qc2 n ⟨⟨rs.start,rs.evs,rs.keys++[q]⟩,U⟩ l a=(s',k)):rs.keys.length<s'.r.keys.length/\gky s'.r.keys rs.keys.length=q:=by
 obtain⟨_,⟨m,e⟩,_⟩:=qdJ h;dsimp only at e;rw[e,ie];refine⟨by rw[hJ,hJ,j1];omega,?_⟩;simp[gky]
def keyI (r:Rc):Int:=if r.keys.length=0 then-1 else(((gky r.keys (r.keys.length-1)).after:Nat):Int)
theorem qmC (r:Rc)(n:Nat):keyI r=(n:Int)↔0<r.keys.length/\(gky r.keys (r.keys.length-1)).after=n:=by
 unfold keyI;split
 ·constructor
  ·intro h;omega
  ·intro h;omega
 ·constructor
  ·intro h;omega
  ·intro h;omega
theorem qqz (st:List Int)(evs:List Ev)(keys:List Ky)(q:Ky):keyI ⟨st,evs,keys++[q]⟩=(q.after:Int):=by
 unfold keyI;dsimp only;rw[if_neg (by simp),hJ,j1,k8];simp[gky]
section
variable {w0 w w' w1:World}{F0:Nat->Prop}{l:List Asn}{rv D:Nat}{s:RS}{e:TypeId}{sz n c:Nat}{xs:List Value}
theorem Sep.toFix (h:Sep w0 F0 w l)(i:Nat)(hi:l[i]? =some (qaf e sz (some D) n c xs):=by rfl):Sep w0 F0 w (l.set i (fixA w D)):=by
 obtain⟨_,h⟩:=h.ref (B:=fun _:Unit=>fixA w D) hi fun F hA=>⟨(),⟨⟨rfl,hA.1.lt⟩,hA.2 D rfl⟩⟩
 exact h
theorem Sep.addR1 (h:Sep w0 F0 w l)(j:Nat)(hr:RdrAt w' rv D s)(hlo:w.heap.size<=rv)(hc:Ch (fun _=>False) w w')(hj:l[j]? =some (fixA w1 D):=by rfl):Sep w0 F0 w' (l++[rdA w1 rv D s]):=by
 obtain⟨F,⟨⟨e,hD⟩,_⟩,_⟩:=h.at hj;have a:D<w1.heap.size:=by
  rw[Array.getElem?_eq_getElem hD]at e;exact(jX.1 e.symm).1
 exact h.add (G:=fun k=>k=rv) (rdA.of hr ((hc.block D hD fun h=>h).trans e) a rfl) (fun b e=>by subst e;exact⟨hlo,hr.lt⟩) hc
theorem SepOn.brd {is:List Nat}{b:Nat}(h:SepOn w0 F0 l is w)(i:Nat)(hm:is.contains i=true:=by rfl)(hi:l[i]? =some (qaf e sz (some b) n c xs):=by rfl):Rd w (some ⟨b,0,none⟩) xs:=(h.own i hm hi).rd
end
structure RdOk (T0:TS)(l:List Int)(s:Sc)(a:Nat):Prop where
 ev:EvsOk s.r.evs
 T:s.T=qb6 T0 s.r.evs s.r.evs.length
 ks:∀j,j<s.r.keys.length->(gky s.r.keys j).after<=s.r.evs.length/\(gky s.r.keys j).state=qL (qb6 T0 s.r.evs (gky s.r.keys j).after)
 up:∀j,j+1<s.r.keys.length->(gky s.r.keys j).after<(gky s.r.keys (j+1)).after
 sz:5*(s.r.evs.length+s.r.keys.length)<=a
theorem qhj {l:List Ky}{q:Ky}{j:Nat}(h:j<l.length):gky (l++[q]) j=gky l j:=by
 unfold gky;rw[iq,iz h,<-iq]
theorem qj9 (l:List Ky)(q:Ky):gky (l++[q]) l.length=q:=by simp[gky]
theorem next_ge {l:List Int}(h:¬(qaD l).2=0):5<=(qaD l).2:=by
 unfold qaD at h⊢;split at h
 ·exact absurd rfl h
 ·rename_i a
  rw[if_neg a];split at h
  ·rename_i b
   rw[if_pos b];dsimp only;omega
  ·exact absurd rfl h
theorem qqA {T0:TS}{l f:List Int}{s s':Sc}{a k:Nat}(h:RdOk T0 l s a)(ht:qaQ s f=some s')(hk:5<=k):RdOk T0 l s' (a+k):=by
 obtain⟨⟨st,evs,d⟩,T⟩:=s;obtain⟨m,g,i,o,r⟩:=h;dsimp only at m g i o r;unfold qaQ at ht;split at ht
 ·cases ht
 ·split at ht
  ·unfold qg3 at ht
   split at ht
   ·rename_i e he
    have hb:=qgt he;have t:qam evs<=e.time:=by
     unfold evR at he;dsimp only at he;split at he
     ·obtain⟨b,_⟩:=il he
      split at b
      ·rw[<-ia b]
       have:=(qa6 (lim:=4611686018427387904) (s:=(qK 4 (some ‹List Int›)).2)).1;dsimp only;omega
      ·cases b
     ·obtain⟨b,_⟩:=il he
      split at b
      ·rw[<-ia b]
       have:=(qa6 (lim:=4611686018427387904) (s:=(qK 4 (some ‹List Int›)).2)).1;dsimp only;omega
      ·cases b
    obtain rfl:=ia ht;refine⟨m.snoc hb t,?_,fun j hj=>?_,o,?_⟩
    ·dsimp only
     rw[hJ,j1,qb6,qf3 _ _ _ _ (iD _),qfD,<-g]
    ·obtain⟨b,p⟩:=i j hj
     dsimp only;rw[hJ,j1,qf3 _ _ _ _ b];exact⟨by omega,p⟩
    ·dsimp only
     rw[hJ,j1];omega
   ·cases ht
  ·split at ht
   ·unfold qks at ht
    split at ht
    ·rename_i hc
     dsimp only at hc;obtain rfl:=ia ht;refine⟨m,g,fun j hj=>?_,fun j hj=>?_,?_⟩
     ·dsimp only at hj⊢
      rw[hJ,j1]at hj;rcases iJ j d.length with hl|hl
      ·rw[qhj hl];exact i j hl
      ·obtain rfl:j=d.length:=by omega
       rw[qj9];dsimp only;exact⟨iD _,by rw[g]⟩
     ·dsimp only at hj⊢
      rw[hJ,j1]at hj;rcases iJ (j+1) d.length with hl|hl
      ·rw[qhj hl,qhj (by omega)];exact o j hl
      ·have q:j+1=d.length:=by omega
       rw[q,qj9,qhj (by omega)];dsimp only;have b:=(i j (by omega)).1;have p:¬(gky d j).after=evs.length:=fun e=>hc.2 ⟨by omega,by rw[<-q,k8];exact e⟩;omega
     ·dsimp only
      rw[hJ,j1];omega
    ·cases ht
   ·cases ht
theorem rdok_F {T0:TS}:∀{n:Nat} {s s':Sc} {l:List Int} {a k:Nat},qc2 n s l a=(s',k)->RdOk T0 l s a-> ∃l',RdOk T0 l' s' k
 |0,s,s',l,a,k,h,ho=>by obtain⟨rfl,rfl⟩:=il h;exact⟨l,ho⟩
 |n+1,s,s',l,a,k,h,ho=>by
  rw[qc2]at h
  split at h
  ·obtain⟨rfl,rfl⟩:=il h;exact⟨l,ho⟩
  ·rename_i h0
   split at h
   ·obtain⟨rfl,rfl⟩:=il h;exact⟨l,ho⟩
   ·rename_i s1 h1
    have:=qqA ho h1 (next_ge h0)
    exact rdok_F h ⟨this.ev,this.T,this.ks,this.up,this.sz⟩
theorem qmD:∀{n:Nat} {s s':Sc} {l:List Int} {a k:Nat},qc2 n s l a=(s',k)->k<=a+l.length
 |0,s,s',l,a,k,h=>by obtain⟨_,rfl⟩:=il h;omega
 |n+1,s,s',l,a,k,h=>by
  rw[qc2]at h
  split at h
  ·obtain⟨_,rfl⟩:=il h;omega
  ·split at h
   ·obtain⟨_,rfl⟩:=il h;omega
   ·have h1:=qmD h
    have h2:=qdC (l:=l)
    rw[iC]at h1
    omega
theorem qhk {dec:List Int->Option TS}(hd:DecW dec){l:List Int}{s:Sc}{k:Nat}(hb:byts l)(h:qd8 dec l=some (s,k)):∃T0,OkS T0/\dec s.r.start=some T0/\RcOk T0 s.r/\EvsOk s.r.evs/\5*(s.r.evs.length+s.r.keys.length)<=l.length/\k<=l.length/\byts s.r.start/\s.r.start.length<=l.length/\s.T=qb6 T0 s.r.evs s.r.evs.length:=by
 unfold qd8 at h;split at h
 ·cases h
 ·rename_i p
  split at h
  ·cases h
  ·rename_i c b hx
   split at h
   ·cases hdb:dec b with
    |none=>rw[hdb]at h;cases h
    |some T=>
     rw[hdb]at h;have hF:=ia h;have a:byts b:=fun x hm=>qco hb x (by rw[hx];exact iW _ hm);have hT:OkS T:=by
      cases hq:qiV (some b)with
      |none=>rw[hd.no b a hq]at hdb;cases hdb
      |some f=>
       obtain⟨T',g,i,_⟩:=hd.yes b f a hq;rw[g]at hdb;obtain rfl:=ia hdb;exact i
     obtain⟨l',ho⟩:=rdok_F (T0:=T) hF ⟨EvsOk.nil,rfl,fun j hj=>absurd hj (j2 _),fun j hj=>absurd hj (j2 _),by show 5*0<=_;omega⟩;have d:=(qdJ hF).2.2;have m:=qmD hF;have q:=qdC (l:=l);rw[iC]at m;have o:b.length<=l.length:=by have:=qdW (l:=l);rw[hx,iy]at this;omega
     exact⟨T,hT,by rw[d];exact hdb,⟨ho.ev.evb,ho.ev.tm,ho.ks,ho.up⟩,ho.ev,by have:=ho.sz;omega,by omega,by rw[d];exact a,by rw[d];exact o,ho.T⟩
   ·cases h
theorem qlu (a:Option Addr)(n cap:Nat)(l:List Int)(w:World)(hT:LT w)(h7:gTop<=w.heap.size)(hr:Rd w a (u8s l))(hl:l.length=n)(hle:n<=cap)(hz:(n=0/\cap=0)\/ ∃b o,a=some ⟨b,o,none⟩)(hby:byts l)(hn:n<=9000000):CP 28 [.slice a n cap].toArray w (RQ (.bool true) w):=by
 have h:=Sep.nil w;refine yA Tryz.func28 rfl<|yx 1<|ysr<|yq 1<|yo (yC (qfK (dec:=qje) a n cap l _ (qaI h.ch hT (fun _ h=>h.elim)) (im h7 h.ch.size) (hr.ch h.ch fun _ _ h=>h) hl hle hz hby hn decW_B) ?_);rintro _ u ⟨vr,kr,xr,rfl,bB⟩;refine⟨_,rfl,?_⟩;rcases bB with⟨a0,rfl,rfl,rfl,bD⟩|⟨E,sf,a0,rfl,rfl,ay⟩
 ·have h:=h.same bD;refine yz 9<|ysr<|yq 1<|yo (yC (qf1 a n cap l _ (hr.ch h.ch fun _ _ h=>h) hl hle hz hby (by omega)) ?_);rintro _ u ⟨bE,S,a4,a8,rfl,V,az,aA⟩;refine⟨_,rfl,?_⟩;have h:=h.app0 az aA;have aB:byts a4:=by have:=qco hby;rw[V]at this;exact this
  have ak:=qdW (l:=l);have al:=qdC (l:=l);rw[V]at ak al;dsimp only at ak al;refine yz 7<|ys<|ysr<|yq 3<|yw [33] (rE (a8:Int) 0) (fun aC=>?_) fun aC=>?_
  ·have cx:=aC;refine yz 13<|yct<|yx 11<|q9 (rS (yR1 (.bool true) ?_));exact⟨rfl,h.ch⟩
  have cy:=aC;refine yq 8<|yw [38] (rE (a4.length:Int) 0) (fun aD=>?_) fun aD=>?_
  ·have cz:=aD;refine yz 13<|yct<|yx 11<|q9 (rS (yR1 (.bool true) ?_));exact⟨rfl,h.ch⟩
  have bF:=aD;obtain⟨bj,rfl⟩:=h.isO 0;obtain⟨N,q,rfl⟩:∃N q,a4=N::q:=by cases a4 with|nil=>exact absurd (show(([]:List Int).length:Int)=0 from rfl) bF|cons c q=>exact⟨c,q,rfl⟩
  have bG:(N::q).length=q.length+1:=rfl;have bH:(N::q).length<=S:=(h.own 0).2.1;have am:byts q:=fun y hy=>aB y (iW _ hy);refine yp 13 [] (.i 0 ((N::q).length) (.l (o:=0) (qnx (h.brd 0) 0 (by omega)) .z))<|ye<|yc (rI ((N::q).getD 0 0) 83) (fun aE=>?_) fun aE=>?_
  ·have cA:=aE;refine yx 11<|q9 (rS (yR1 (.bool true) ?_));exact⟨rfl,h.ch⟩
  have bI:=aE;obtain rfl:N=83:=bI;refine yk<|ysr<|yp 2 [] (.j 1 ((83::q).length) .z)<|yo (yC (qfI bj (some ⟨bj,(if S=(1:Int).toNat then 0 else 0+(1:Int).toNat*1),none⟩) ((83::q).length-(1:Int).toNat) (S-(1:Int).toNat) q _ _ (qaI h.ch hT (fun _ h=>h.elim)) (im h7 h.ch.size) (qd9 (h.brd 0) (by omega)) (by omega) (by omega) (.inr ⟨_,rfl⟩) am (by omega) (h.own 0).lt rfl) ?_);rintro _ u ⟨vd,xd,rfl,aw,aF⟩;refine⟨_,rfl,?_⟩;rcases aF with⟨a1,rfl,rfl⟩|⟨t,T,a1,rfl,rfl,aG⟩
  ·have h:=h.same aw;refine yz 8<|ys<|yx 2<|yct<|yx 11<|q9 (rS (yR1 (.bool true) ?_));exact⟨rfl,h.ch⟩
  obtain⟨T,a1,bk,aH⟩:=decW_B.yes _ _ am a1;have h:=h.newTm (aH aG) aw;rw[qcY V (by omega),show qje q=some T from a1]at a0;exact absurd a0 (by simp)
 obtain⟨x1,G,ay⟩:=ay.scan;have h:=h.join ay;obtain⟨s,v,A,C,g,F,k,d,B⟩:=x1;refine yz 9<|ysr<|yq 1<|yo (yC (qf1 a n cap l _ (hr.ch h.ch fun _ _ h=>h) hl hle hz hby (by omega)) ?_);rintro _ u ⟨bE,S,a4,a8,rfl,V,az,aA⟩;refine⟨_,rfl,?_⟩;have h:=h.app0 az aA;have aB:byts a4:=by have:=qco hby;rw[V]at this;exact this
 have ak:=qdW (l:=l);have al:=qdC (l:=l);rw[V]at ak al;dsimp only at ak al;refine yz 7<|ys<|ysr<|yq 3<|yw [33] (rE (a8:Int) 0) (fun aI=>?_) fun aI=>?_
 ·have cB:=aI;exact absurd a0 (by rw[qe2 V (.inl (by omega))];simp)
 have cC:=aI;refine yq 8<|yw [38] (rE (a4.length:Int) 0) (fun aJ=>?_) fun aJ=>?_
 ·have cD:=aJ;exact absurd a0 (by rw[qe2 V (.inr (.inl (iu (by omega))))];simp)
 have bK:=aJ;obtain⟨an,rfl⟩:=h.isO 5;obtain⟨N,q,rfl⟩:∃N q,a4=N::q:=by cases a4 with|nil=>exact absurd (show(([]:List Int).length:Int)=0 from rfl) bK|cons c q=>exact⟨c,q,rfl⟩
 have bG:(N::q).length=q.length+1:=rfl;have bH:(N::q).length<=S:=(h.own 5).2.1;have am:byts q:=fun y hy=>aB y (iW _ hy);refine yp 13 [] (.i 0 ((N::q).length) (.l (o:=0) (qnx (h.brd 5) 0 (by omega)) .z))<|ye<|yc (rI ((N::q).getD 0 0) 83) (fun aK=>?_) fun aK=>?_
 ·have bL:=aK;exact absurd a0 (by rw[qe2 V (.inr (.inr bL))];simp)
 have bM:=aK;obtain rfl:N=83:=bM;refine yk<|ysr<|yp 2 [] (.j 1 ((83::q).length) .z)<|yo (yC (qfI an (some ⟨an,(if S=(1:Int).toNat then 0 else 0+(1:Int).toNat*1),none⟩) ((83::q).length-(1:Int).toNat) (S-(1:Int).toNat) q _ _ (qaI h.ch hT (fun _ h=>h.elim)) (im h7 h.ch.size) (qd9 (h.brd 5) (by omega)) (by omega) (by omega) (.inr ⟨_,rfl⟩) am (by omega) (h.own 5).lt rfl) ?_);rintro _ u ⟨vd,xd,rfl,aw,aF⟩;refine⟨_,rfl,?_⟩;rcases aF with⟨a1,rfl,rfl⟩|⟨t,T,a1,rfl,rfl,aG⟩
 ·rw[qcY V (by omega),show qje q=none from a1]at a0;exact absurd a0 (by simp)
 obtain⟨T,a1,bk,aH⟩:=decW_B.yes _ _ am a1;have h:=h.newTm (aH aG) aw;rw[qcY V (by omega),show qje q=some T from a1]at a0;have bl:qc2 l.length ⟨⟨q,[],[]⟩,T⟩ (l.drop a8) a8=(sf,kr):=zi a0;have bO:sf.r.start=q:=(qdJ bl).2.2;refine yz 8<|ys<|yx 2<|ycf<|yk<|ys<|qaO ([(0,.slice a n cap),(3,pX E),(4,iX (kr:Int)),(7,iX (a8:Int)),(8,pX t),(88,.bool (!((qe (sf.r.start)).toList==(qe (q)).toList)))]) (fun u=>Sep w (fun _=>False) u [qbX E (qnB ⟨s,v,A,C,g,F,k,d,B⟩ sf.r G) qag,qaf tEv 5 C sf.r.evs.length g (qdi sf.r.evs),qaf qgo 2 F sf.r.keys.length k (qay d sf.r.keys 0),roA (roL ⟨s,v,A,C,g,F,k,d,B⟩ sf.r),qcX (ScOk ⟨s,v,A,C,g,F,k,d,B⟩ sf.r),qaf tU8 1 (some an) (83::q).length S (u8s ((83::q))),qau t T]) (fun cE bm=>?_) (fun u h=>?_)
 ·refine zDC [11] [0,1,2,3,4,5,6] h fun u h=>ydF [0,1,2,3,4,5,6,7,8,9,10,12] [] h.on (fun u h=>(.l (h.rcx 0 (b:=E) (r:=sf.r) ⟨s,v,A,C,g,F,k,d,B⟩ G qag).c0 .z))<|ydT [13] [] h.on (fun _=>(.j 1 ((83::q).length) .z))<|qa5 11 14 (by kernel_rfl) (by decide) ?_ ?_
  ·refine qH 11 _ (by kernel_rfl) rfl (qr s v A (sf.r.start) (some 83) (by kernel_rfl) ((h.rcx 0 (b:=E) (r:=sf.r) ⟨s,v,A,C,g,F,k,d,B⟩ G qag).st) ((h.rcx 0 (b:=E) (r:=sf.r) ⟨s,v,A,C,g,F,k,d,B⟩ G qag).sl) ?_);refine zK (is:=[0,1,2,3,4,5,6]) h<|yH 14 (qr (some ⟨an,(if S=(1:Int).toNat then 0 else 0+(1:Int).toNat*1),none⟩) ((83::q).length-(1:Int).toNat) (S-(1:Int).toNat) q (some 86) (by kernel_rfl) (qd9 (h.brd 5) (by omega)) (by omega) ?_);refine zH h<|ydF [15,16] [] h.on (fun u h=> .z)<|yDe (fun a ha=>bm _ (h.take 7) a (ha.kp [0,3,4,7,8,88]))
  refine qa4 14 _ (by kernel_rfl) rfl (qr (some ⟨an,(if S=(1:Int).toNat then 0 else 0+(1:Int).toNat*1),none⟩) ((83::q).length-(1:Int).toNat) (S-(1:Int).toNat) q (some 86) (by kernel_rfl) (qd9 (h.brd 5) (by omega)) (by omega) ?_);refine zH h<|yK 11 (qr s v A (sf.r.start) (some 83) (by kernel_rfl) ((h.rcx 0 (b:=E) (r:=sf.r) ⟨s,v,A,C,g,F,k,d,B⟩ G qag).st) ((h.rcx 0 (b:=E) (r:=sf.r) ⟨s,v,A,C,g,F,k,d,B⟩ G qag).sl) ?_);refine q8<|yd [15,16] [] .z<|yDe (fun a ha=>bm _ (h.take 7) a (ha.kp [0,3,4,7,8,88]))
 refine yc (rN (rY ((qe (sf.r.start)).toList==(qe (q)).toList))) (fun aL=>?_) fun aL=>?_
 ·have bP:=aL;exact absurd (by rw[bO];exact beq_self_eq_true _) (j0.1 bP)
 have cF:=aL;refine yk<|yx 4<|ys<|qa ?_;have h:=h.ord [0,1,2,3,4,6];obtain⟨h0,_⟩|⟨D,ae,rfl⟩:=hz
 ·exfalso;omega
 refine qZ [0,3,4,7,8,10,11,12,13] (f':=[(0,.slice (some ⟨D,ae,none⟩) n cap),(3,pX E),(4,iX (kr:Int)),(7,iX (a8:Int)),(8,pX t),(10,iX 0),(11,iX 0),(12,iX 0),(13,iX (-1))])<|qy (σ:=Sc×Nat×Nat×Nat×Nat×Int×Int) (fun⟨⟨rs,U⟩,H,fu,ne,nk,la,ky⟩=>[(0,.slice (some ⟨D,ae,none⟩) n cap),(3,pX E),(4,iX (kr:Int)),(7,iX (H:Int)),(8,pX t),(10,iX (ne:Int)),(11,iX (nk:Int)),(12,iX la),(13,iX ky)]) (fun⟨⟨rs,U⟩,H,fu,ne,nk,la,ky⟩ u=>qc2 fu ⟨rs,U⟩ (l.drop H) H=(sf,kr)/\H<=n/\n-H<fu/\OkS U/\(0<=qam rs.evs/\qam rs.evs<=4611686018427387904)/\(ne<=H/\nk<=H)/\rs.evs.length=ne/\rs.keys.length=nk/\la=qam rs.evs/\ky=keyI rs/\Sep w (fun _=>False) u [qbX E (qnB ⟨s,v,A,C,g,F,k,d,B⟩ sf.r G) qag,qaf tEv 5 C sf.r.evs.length g (qdi sf.r.evs),qaf qgo 2 F sf.r.keys.length k (qay d sf.r.keys 0),roA (roL ⟨s,v,A,C,g,F,k,d,B⟩ sf.r),qcX (ScOk ⟨s,v,A,C,g,F,k,d,B⟩ sf.r),qau t U]) (fun⟨⟨rs,U⟩,H,fu,ne,nk,la,ky⟩=>n-H) (⟨⟨q,[],[]⟩,T⟩,a8,l.length,0,0,0,-1) rfl ?_ ?_
 ·exact⟨bl,by omega,by omega,bk,⟨Int.le_refl 0,(by decide:(0:Int)<=4611686018427387904)⟩,⟨ip _,ip _⟩,rfl,rfl,rfl,rfl,h⟩
 intro p u bQ cH bn;obtain⟨⟨rs,U⟩,H,fu,ne,nk,la,ky⟩:=p;obtain⟨hF,bR,cI,hO,aM,cJ,L,P,aN,aO,h⟩:=bQ;have ao:=qcc hO.dec;have cK:=qc1 hO.dec;have cL:=((h.rcx 0 (b:=E) (r:=sf.r) ⟨s,v,A,C,g,F,k,d,B⟩ G qag)).en;refine qa<|ysr<|yp 3 [] (.j (H:Int) (n) .z)<|yo (yC (qf1 (some ⟨D,(if cap=((H:Int):Int).toNat then ae else ae+((H:Int):Int).toNat*1),none⟩) (n-((H:Int):Int).toNat) (cap-((H:Int):Int).toNat) (l.drop H) _ (rd_at1 (hr.ch h.ch fun _ _ h=>h) hl hle bR) (by rw[iC];omega) (by omega) (.inr ⟨_,_,rfl⟩) (qcm hby H) (by omega)) ?_);rintro _ u ⟨cM,Q,af,ac,rfl,O,bS,bT⟩;refine⟨_,rfl,?_⟩;have h:=h.app0 bS bT;have bU:byts af:=by have:=qco (qcm hby H);rw[O]at this;exact this
 have aP:=qdW (l:=(l.drop H));have aQ:=qdC (l:=(l.drop H));rw[O]at aP aQ;dsimp only at aP aQ;rw[iC]at aP aQ;refine yz 9<|ys<|ysr<|yq 3<|yw [98] (rE (ac:Int) 0) (fun aR=>?_) fun aR=>?_
 ·have cN:=aR;refine yz 7<|yct<|ql (eS (eB (qd (qb (nS ?_)))));refine ysr<|yq 4<|yw [212] (rE (kr:Int) (H:Int)) (fun aS=>?_) fun aS=>?_
  ·have cO:=aS;obtain⟨fu,rfl⟩:∃f,fu=f+1:=⟨fu-1,by omega⟩
   have M:=(qaC O (.inl (by omega))).symm.trans hF;obtain⟨J,W⟩:=il M;have X:sf.r.evs.length=ne:=by rw[<-J];exact L
   have Y:sf.r.keys.length=nk:=by rw[<-J];exact P
   refine yp 13 [] (.l (h.rcx 0 (b:=E) (r:=sf.r) ⟨s,v,A,C,g,F,k,d,B⟩ G qag).c1 .z)<|yw [221] (rE (ne:Int) (sf.r.evs.length:Int)) (fun aT=>?_) fun aT=>?_
   ·have cP:=aT;refine yp 22 [] (.l (h.rcx 0 (b:=E) (r:=sf.r) ⟨s,v,A,C,g,F,k,d,B⟩ G qag).c2 .z)<|ye<|q9 (yR1 (.bool (((nk:Int):Int)==(sf.r.keys.length:Int))) ?_);exact⟨by rw[show(((nk:Int):Int)==(sf.r.keys.length:Int))=true from iR.2 (by omega)],h.ch⟩
   have cQ:=aT;exfalso;omega
  have cR:=aS;obtain⟨fu,rfl⟩:∃f,fu=f+1:=⟨fu-1,by omega⟩
  have M:=(qaC O (.inl (by omega))).symm.trans hF;obtain⟨J,W⟩:=il M;have X:sf.r.evs.length=ne:=by rw[<-J];exact L
  have Y:sf.r.keys.length=nk:=by rw[<-J];exact P
  exfalso;omega
 have cS:=aR;refine yz 7<|yc (rE (af.length:Int) 0) (fun aU=>?_) fun aU=>?_
 ·have cT:=aU;refine ql (eS (eB (qd (qb (nS ?_)))));refine ysr<|yq 4<|yw [212] (rE (kr:Int) (H:Int)) (fun aV=>?_) fun aV=>?_
  ·have cU:=aV;obtain⟨fu,rfl⟩:∃f,fu=f+1:=⟨fu-1,by omega⟩
   have M:=(qaC O (.inr (by rw[show af=[]from iu (by omega)];rfl))).symm.trans hF;obtain⟨J,W⟩:=il M;have X:sf.r.evs.length=ne:=by rw[<-J];exact L
   have Y:sf.r.keys.length=nk:=by rw[<-J];exact P
   refine yp 13 [] (.l (h.rcx 0 (b:=E) (r:=sf.r) ⟨s,v,A,C,g,F,k,d,B⟩ G qag).c1 .z)<|yw [221] (rE (ne:Int) (sf.r.evs.length:Int)) (fun aW=>?_) fun aW=>?_
   ·have cV:=aW;refine yp 22 [] (.l (h.rcx 0 (b:=E) (r:=sf.r) ⟨s,v,A,C,g,F,k,d,B⟩ G qag).c2 .z)<|ye<|q9 (yR1 (.bool (((nk:Int):Int)==(sf.r.keys.length:Int))) ?_);exact⟨by rw[show(((nk:Int):Int)==(sf.r.keys.length:Int))=true from iR.2 (by omega)],h.ch⟩
   have cW:=aW;exfalso;omega
  have cX:=aV;obtain⟨fu,rfl⟩:∃f,fu=f+1:=⟨fu-1,by omega⟩
  have M:=(qaC O (.inr (by rw[show af=[]from iu (by omega)];rfl))).symm.trans hF;obtain⟨J,W⟩:=il M;have X:sf.r.evs.length=ne:=by rw[<-J];exact L
  have Y:sf.r.keys.length=nk:=by rw[<-J];exact P
  exfalso;omega
 have bV:=aU;obtain⟨a5,rfl⟩:=h.isO 6;obtain⟨a9,I,rfl⟩:∃N q,af=N::q:=by cases af with|nil=>exact absurd (show(([]:List Int).length:Int)=0 from rfl) bV|cons c q=>exact⟨c,q,rfl⟩
 have cY:(a9::I).length=I.length+1:=rfl;have cZ:(a9::I).length<=Q:=(h.own 6).2.1;have ag:byts I:=fun y hy=>bU y (iW _ hy);refine yk<|ys<|ysr<|yp 4 [] (.i 0 ((a9::I).length) (.l (o:=0) (qnx (h.brd 6) 0 (by omega)) .z))<|ye<|yc (rE ((a9::I).getD 0 0) 69) (fun aX=>?_) fun aX=>?_
 ·have bW:=aX;obtain rfl:a9=69:=bW;refine ysr<|yp 2 [] (.j 1 ((69::I).length) .z) ?_;have bX:=qd9 (h.brd 6) (by omega);have bY:=(h.own 6).lt;have h:=h.toFix 6;refine yo (yC (qpD a5 (some ⟨a5,(if Q=(1:Int).toNat then 0 else 0+(1:Int).toNat*1),none⟩) ((69::I).length-(1:Int).toNat) (Q-(1:Int).toNat) I _ bX (by omega) (by omega) (.inr ⟨_,rfl⟩) ag (by omega) bY) ?_);rintro _ u ⟨d0,rfl,bZ,c3,c4⟩;refine⟨_,rfl,?_⟩;have h:=h.addR1 6 c3 bZ c4;refine yz 4<|ysr<|yq 2 ?_;obtain⟨vo,s1,hE⟩:∃vo s1,evR la (some I)=(vo,s1):=⟨_,_,rfl⟩
  have aq:evR (qam rs.evs) (some I)=(vo,s1):=by rw[<-aN];exact hE
  refine yo (yQ (h.read 7 6 fun hA=>qi5 la _ hA hE (by rw[aN];exact aM)) fun u h=>?_);refine yq 6<|yo (zN [iX 0,iX 0,oX,iX 0,iX 0] 66 h fun u d1 h=>?_);refine yo (zs h 8 fun u h=>?_);refine yz 9<|ys<|ysr<|yq 3<|yw [118] (rN (rY vo.isSome)) (fun aY=>?_) fun aY=>?_
  ·have bo:=aY;refine yz 7<|yct<|ql (eS (eS (eB (qd (qb (nS ?_))))));refine ysr<|yq 4<|yw [212] (rE (kr:Int) (H:Int)) (fun aZ=>?_) fun aZ=>?_
   ·have d2:=aZ;obtain⟨fu,rfl⟩:∃f,fu=f+1:=⟨fu-1,by omega⟩
    have M:=(qaC O (.inr (qe1 aq (.inl (by simpa using bo))))).symm.trans hF;obtain⟨J,W⟩:=il M;have X:sf.r.evs.length=ne:=by rw[<-J];exact L
    have Y:sf.r.keys.length=nk:=by rw[<-J];exact P
    refine yp 13 [] (.l (h.rcx 0 (b:=E) (r:=sf.r) ⟨s,v,A,C,g,F,k,d,B⟩ G qag).c1 .z)<|yw [221] (rE (ne:Int) (sf.r.evs.length:Int)) (fun b0=>?_) fun b0=>?_
    ·have d3:=b0;refine yp 22 [] (.l (h.rcx 0 (b:=E) (r:=sf.r) ⟨s,v,A,C,g,F,k,d,B⟩ G qag).c2 .z)<|ye<|q9 (yR1 (.bool (((nk:Int):Int)==(sf.r.keys.length:Int))) ?_);exact⟨by rw[show(((nk:Int):Int)==(sf.r.keys.length:Int))=true from iR.2 (by omega)],h.ch⟩
    have d4:=b0;exfalso;omega
   have d5:=aZ;obtain⟨fu,rfl⟩:∃f,fu=f+1:=⟨fu-1,by omega⟩
   have M:=(qaC O (.inr (qe1 aq (.inl (by simpa using bo))))).symm.trans hF;obtain⟨J,W⟩:=il M;have X:sf.r.evs.length=ne:=by rw[<-J];exact L
   have Y:sf.r.keys.length=nk:=by rw[<-J];exact P
   exfalso;omega
  have c5:=aY;obtain⟨ev,rfl⟩:=jC.1 c5;have c6:=qgt hE;have c7:ev.data.size<=1000000:=by have:=(qg1 c6).1.2;omega
  refine yq 4<|yo (yQ (h.look (qiZ (h.rdr 7 6))) fun u h=>?_);refine yz 7<|yc (rN (rY (decide (s1=some [])))) (fun b2=>?_) fun b2=>?_
  ·have bp:=b2;refine ql (eS (eS (eB (qd (qb (nS ?_))))));refine ysr<|yq 4<|yw [212] (rE (kr:Int) (H:Int)) (fun b3=>?_) fun b3=>?_
   ·have d6:=b3;obtain⟨fu,rfl⟩:∃f,fu=f+1:=⟨fu-1,by omega⟩
    have M:=(qaC O (.inr (qe1 aq (.inr (by simpa using bp))))).symm.trans hF;obtain⟨J,W⟩:=il M;have X:sf.r.evs.length=ne:=by rw[<-J];exact L
    have Y:sf.r.keys.length=nk:=by rw[<-J];exact P
    refine yp 13 [] (.l (h.rcx 0 (b:=E) (r:=sf.r) ⟨s,v,A,C,g,F,k,d,B⟩ G qag).c1 .z)<|yw [221] (rE (ne:Int) (sf.r.evs.length:Int)) (fun b4=>?_) fun b4=>?_
    ·have d7:=b4;refine yp 22 [] (.l (h.rcx 0 (b:=E) (r:=sf.r) ⟨s,v,A,C,g,F,k,d,B⟩ G qag).c2 .z)<|ye<|q9 (yR1 (.bool (((nk:Int):Int)==(sf.r.keys.length:Int))) ?_);exact⟨by rw[show(((nk:Int):Int)==(sf.r.keys.length:Int))=true from iR.2 (by omega)],h.ch⟩
    have d8:=b4;exfalso;omega
   have d9:=b3;obtain⟨fu,rfl⟩:∃f,fu=f+1:=⟨fu-1,by omega⟩
   have M:=(qaC O (.inr (qe1 aq (.inr (by simpa using bp))))).symm.trans hF;obtain⟨J,W⟩:=il M;have X:sf.r.evs.length=ne:=by rw[<-J];exact L
   have Y:sf.r.keys.length=nk:=by rw[<-J];exact P
   exfalso;omega
  have c8:=b2;obtain rfl:s1=some []:=by simpa using c8
  have ax:=qkw (r:=rs) (U:=U) aq;obtain⟨fu,rfl⟩:∃f,fu=f+1:=⟨fu-1,by omega⟩
  have ad:=(qj5 O (by omega) ax).symm.trans hF;have bq:=pre_ev ad;rw[L]at bq;have br:=qmt ax hO aM;refine yk<|ys<|ys<|zD [] h fun u h=>yd (uL 0 8) [] (.l (h.rcx 0 (b:=E) (r:=sf.r) ⟨s,v,A,C,g,F,k,d,B⟩ G qag).c1 .z)<|yv [130] (rM (sf.r.evs.length:Int) (ne:Int)) (fun b5=>?_) fun b5=>?_
  ·have da:=b5;exfalso;omega
  have db:=b5;obtain⟨ah,rfl⟩:=(h.rcx 0 (b:=E) (r:=sf.r) ⟨s,v,A,C,g,F,k,d,B⟩ G qag).eb (by omega);refine yd (uL 8 10) [] (.l (h.rcx 0 (b:=E) (r:=sf.r) ⟨s,v,A,some ah,g,F,k,d,B⟩ G qag).c1 (.i (ne:Int) (sf.r.evs.length) (.m ((h.rcx 0 (b:=E) (r:=sf.r) ⟨s,v,A,some ah,g,F,k,d,B⟩ G qag).evx (x:=(ne:Int)) (i:=ne) (by omega) (by omega) 0 _ rfl (by decide)) (.m ((h.rcx 0 (b:=E) (r:=sf.r) ⟨s,v,A,some ah,g,F,k,d,B⟩ G qag).evx (x:=(ne:Int)) (i:=ne) (by omega) (by omega) 1 _ rfl (by decide)) (.m ((h.rcx 0 (b:=E) (r:=sf.r) ⟨s,v,A,some ah,g,F,k,d,B⟩ G qag).evx (x:=(ne:Int)) (i:=ne) (by omega) (by omega) 2 _ rfl (by decide)) (.m ((h.rcx 0 (b:=E) (r:=sf.r) ⟨s,v,A,some ah,g,F,k,d,B⟩ G qag).evx (x:=(ne:Int)) (i:=ne) (by omega) (by omega) 3 _ rfl (by decide)) (.m ((h.rcx 0 (b:=E) (r:=sf.r) ⟨s,v,A,some ah,g,F,k,d,B⟩ G qag).evx (x:=(ne:Int)) (i:=ne) (by omega) (by omega) 4 _ rfl (by decide)) (.e (.a (h.cs 8 0 5) .z)))))))))<|yDe (nS ?_);refine yc (rN (rY ((((ge sf.r.evs ne).time:Int)==ev.time)&&((((ge sf.r.evs ne).kind:Int)==ev.kind)&&((((ge sf.r.evs ne).data).toList==(ev.data).toList)&&((((ge sf.r.evs ne).w:Int)==ev.w)&&((((ge sf.r.evs ne).h:Int)==ev.h)&&true))))))) (fun b6=>?_) fun b6=>?_
  ·have c9:=b6;exact absurd ((qqm _ _).2 bq.2) (j0.1 c9)
  have dc:=b6;refine yk<|ysr<|yp 2 [] (.a (h.cs 8 0 5) .z)<|yo (yQ (h.app13 (gz0 h7) hT 5 ev hO.fine c7) fun u h=>?_);refine ye<|ysr<|yp 3 [] (.q6 ((ne:Int)+1) .z)<|ye<|q7<|yp 3 [] (.l (h.c 8 0) .z)<|ye<|q7<|yp 4 [] (.q6 ((H:Int)+(ac:Int)) .z) ?_;have h:=h.nrm 8 [iX ev.time,iX ev.kind,.string ev.data,iX ev.w,iX ev.h];refine yE (nB (fun a ha=>bn (⟨⟨rs.start,rs.evs++[ev],rs.keys⟩,qa8 U ev⟩,H+ac,fu,ne+1,nk,ev.time,ky) _ ⟨by rw[jO]at ad;exact ad,by omega,by omega,br.1,br.2,by omega,by show(rs.evs++[ev]).length=ne+1;rw[hJ,L];rfl,P,(qi8 _ _).symm,aO,h.take 6⟩ (by show n-(H+_)<n-H;omega) a (ha.kp [0,3,4,7,8,10,11,12,13])))
 have bs:=aX;refine ysr<|yp 4 [] (.i 0 ((a9::I).length) (.l (o:=0) (qnx (h.brd 6) 0 (by omega)) .z))<|ye<|yc (rE ((a9::I).getD 0 0) 75) (fun b7=>?_) fun b7=>?_
 ·have ca:=b7;obtain rfl:a9=75:=ca;refine ysr<|yq 1<|yo (yC (h.encT 5 hO.dec.enc) ?_);rintro _ u ⟨a6,K,a7,rfl,h⟩;refine⟨_,rfl,?_⟩;have ai:(qL U).length=K:=by have:=h.len1 7;rwa[hZ]at this
  refine yz 3<|ys ?_;have h:=h.ord [0,1,2,3,4,5,6,7];refine qb9 (σ:=Bool) (fun gs=>[(0,.slice (some ⟨D,ae,none⟩) n cap),(3,pX E),(4,iX (kr:Int)),(7,iX (H:Int)),(8,pX t),(10,iX (ne:Int)),(11,iX (nk:Int)),(12,iX la),(15,iX (ac:Int)),(19,.slice (a6.map at0) K a7),(169,.bool gs)]) (fun gs u=>(gs=true->qaQ ⟨rs,U⟩ (75::I)=none)/\(gs=false->qt ne++qL U=I/\ ¬ky=(ne:Int))/\Sep w (fun _=>False) u [qbX E (qnB ⟨s,v,A,C,g,F,k,d,B⟩ sf.r G) qag,qaf tEv 5 C sf.r.evs.length g (qdi sf.r.evs),qaf qgo 2 F sf.r.keys.length k (qay d sf.r.keys 0),roA (roL ⟨s,v,A,C,g,F,k,d,B⟩ sf.r),qcX (ScOk ⟨s,v,A,C,g,F,k,d,B⟩ sf.r),qau t U,qaf tU8 1 (some a5) (75::I).length Q (u8s ((75::I))),qaf tU8 1 a6 K a7 (u8s (qL U))]) (fun dd aj=>?_) (fun gs u h=>?_)
  ·refine zD [6,9,10,12,13] h fun u h=>yd (uL 0 4) [] .z<|yv [157] (rE ky (ne:Int)) (fun b8=>?_) fun b8=>?_
   ·have cb:=b8;refine yd (uL 4 12) [] .z<|yDe (fun a ha=>aj true _ ⟨fun _=>qax fun hh=>hh.2 ((qmC rs _).1 (by rw[<-aO,L];exact cb)),fun e=>(by cases e),h.take 8⟩ a (ha.kp [0,3,4,7,8,10,11,12,15,19,169]))
   have ar:=b8;refine ydT [4,5,7,8,11] [8] rfl (fun _=>(.j 1 ((75::I).length) (.p (q:=InR .u64 (ne:Int)) (qan (by omega) (by omega)) .z)))<|qa5 6 9 (by kernel_rfl) (by decide) ?_ ?_
   ·refine qH 6 _ (by kernel_rfl) rfl (qr (some ⟨a5,(if Q=(1:Int).toNat then 0 else 0+(1:Int).toNat*1),none⟩) ((75::I).length-(1:Int).toNat) (Q-(1:Int).toNat) I (some 160) (by kernel_rfl) (qd9 (h.brd 6) (by omega)) (by omega) ?_);refine q8<|yK 9 (zB [.int .u64 (ne:Int)] 110 1 h fun u de h=>?_);refine q8<|yK 10 (yC (qce (xs:=[]) 1 [(ne:Int)] (Own.nil _ _ _) (Rd.all (h.b 8)) (bC bN) (h.b 8).lt (fun b e=>by cases e)) ?_);rintro _ u ⟨df,au,dg,rfl,cc,dh,cd⟩;refine⟨_,rfl,?_⟩;have h:=h.app0 cc cd;have di:([]++qX [(ne:Int)]).length=au:=by have:=h.len1 9;rwa[hZ]at this
    refine q8<|yK 12 (zA (a2:=(a6.map at0)) (ys:=u8s (qL U)) 9 1 K a7 (au+K) (u8s ([]++qX [(ne:Int)]++qL U)) h (h.ownRd' 7) (qF _) (hz:=(qaE _ _).symm) (hy:=(by rw[qab];have:=ai;omega)) (hn2:=(h.own 7).nz) fun u ce cf h dj=>?_);have cg:([]++qX [(ne:Int)]++qL U).length=(au+K):=by have:=h.len1 9;rwa[hZ]at this
    have Z:([]++qX [(ne:Int)]++qL U:List Int)=qt ne++qL U:=by rw[qcp,ik];rfl
    rw[Z]at h;have aa:(qt ne++qL U).length=(au+K):=by rw[<-Z];exact cg
    refine q8<|yK 13 (qr (ce.map at0) (au+K) cf (qt ne++qL U) (some 167) (by kernel_rfl) (h.ownRd' 9) aa ?_);refine q8<|yd [14,15] [] .z ?_;have R:=(qo ag (qj (qq (n:=ne) (by omega)) ao))
    refine yDe (fun a ha=>aj (!(((qe (I))).toList==((qe (qt ne++qL U))).toList)) _ ⟨fun e=>qax fun hh=>absurd hh.1.symm (by rw[L];exact iS (R.symm.trans (by simpa using e))),fun e=>⟨(iB (R.symm.trans (by simpa using e))).symm,ar⟩,h.take 8⟩ a (ha.kp [0,3,4,7,8,10,11,12,15,19,169]))
   refine qH 9 _ (by kernel_rfl) rfl (zB [.int .u64 (ne:Int)] 110 1 h fun u dk h=>?_);refine q8<|qa5 6 10 (by kernel_rfl) (by decide) ?_ ?_
   ·refine qH 6 _ (by kernel_rfl) rfl (qr (some ⟨a5,(if Q=(1:Int).toNat then 0 else 0+(1:Int).toNat*1),none⟩) ((75::I).length-(1:Int).toNat) (Q-(1:Int).toNat) I (some 160) (by kernel_rfl) (qd9 (h.brd 6) (by omega)) (by omega) ?_);refine q8<|yK 10 (yC (qce (xs:=[]) 1 [(ne:Int)] (Own.nil _ _ _) (Rd.all (h.b 8)) (bC bN) (h.b 8).lt (fun b e=>by cases e)) ?_);rintro _ u ⟨dl,av,dm,rfl,ci,dn,cj⟩;refine⟨_,rfl,?_⟩;have h:=h.app0 ci cj;have dp:([]++qX [(ne:Int)]).length=av:=by have:=h.len1 9;rwa[hZ]at this
    refine q8<|yK 12 (zA (a2:=(a6.map at0)) (ys:=u8s (qL U)) 9 1 K a7 (av+K) (u8s ([]++qX [(ne:Int)]++qL U)) h (h.ownRd' 7) (qF _) (hz:=(qaE _ _).symm) (hy:=(by rw[qab];have:=ai;omega)) (hn2:=(h.own 7).nz) fun u ck cl h dq=>?_);have cm:([]++qX [(ne:Int)]++qL U).length=(av+K):=by have:=h.len1 9;rwa[hZ]at this
    have Z:([]++qX [(ne:Int)]++qL U:List Int)=qt ne++qL U:=by rw[qcp,ik];rfl
    rw[Z]at h;have aa:(qt ne++qL U).length=(av+K):=by rw[<-Z];exact cm
    refine q8<|yK 13 (qr (ck.map at0) (av+K) cl (qt ne++qL U) (some 167) (by kernel_rfl) (h.ownRd' 9) aa ?_);refine q8<|yd [14,15] [] .z ?_;have R:=(qo ag (qj (qq (n:=ne) (by omega)) ao))
    refine yDe (fun a ha=>aj (!(((qe (I))).toList==((qe (qt ne++qL U))).toList)) _ ⟨fun e=>qax fun hh=>absurd hh.1.symm (by rw[L];exact iS (R.symm.trans (by simpa using e))),fun e=>⟨(iB (R.symm.trans (by simpa using e))).symm,ar⟩,h.take 8⟩ a (ha.kp [0,3,4,7,8,10,11,12,15,19,169]))
   refine qH 10 _ (by kernel_rfl) rfl (yC (qce (xs:=[]) 1 [(ne:Int)] (Own.nil _ _ _) (Rd.all (h.b 8)) (bC bN) (h.b 8).lt (fun b e=>by cases e)) ?_);rintro _ u ⟨dr,a3,ds,rfl,cn,dt,co⟩;refine⟨_,rfl,?_⟩;have h:=h.app0 cn co;have du:([]++qX [(ne:Int)]).length=a3:=by have:=h.len1 9;rwa[hZ]at this
   refine q8<|qa5 6 12 (by kernel_rfl) (by decide) ?_ ?_
   ·refine qH 6 _ (by kernel_rfl) rfl (qr (some ⟨a5,(if Q=(1:Int).toNat then 0 else 0+(1:Int).toNat*1),none⟩) ((75::I).length-(1:Int).toNat) (Q-(1:Int).toNat) I (some 160) (by kernel_rfl) (qd9 (h.brd 6) (by omega)) (by omega) ?_);refine q8<|yK 12 (zA (a2:=(a6.map at0)) (ys:=u8s (qL U)) 9 1 K a7 (a3+K) (u8s ([]++qX [(ne:Int)]++qL U)) h (h.ownRd' 7) (qF _) (hz:=(qaE _ _).symm) (hy:=(by rw[qab];have:=ai;omega)) (hn2:=(h.own 7).nz) fun u cp cq h dv=>?_);have cr:([]++qX [(ne:Int)]++qL U).length=(a3+K):=by have:=h.len1 9;rwa[hZ]at this
    have Z:([]++qX [(ne:Int)]++qL U:List Int)=qt ne++qL U:=by rw[qcp,ik];rfl
    rw[Z]at h;have aa:(qt ne++qL U).length=(a3+K):=by rw[<-Z];exact cr
    refine q8<|yK 13 (qr (cp.map at0) (a3+K) cq (qt ne++qL U) (some 167) (by kernel_rfl) (h.ownRd' 9) aa ?_);refine q8<|yd [14,15] [] .z ?_;have R:=(qo ag (qj (qq (n:=ne) (by omega)) ao))
    refine yDe (fun a ha=>aj (!(((qe (I))).toList==((qe (qt ne++qL U))).toList)) _ ⟨fun e=>qax fun hh=>absurd hh.1.symm (by rw[L];exact iS (R.symm.trans (by simpa using e))),fun e=>⟨(iB (R.symm.trans (by simpa using e))).symm,ar⟩,h.take 8⟩ a (ha.kp [0,3,4,7,8,10,11,12,15,19,169]))
   refine qH 12 _ (by kernel_rfl) rfl (zA (a2:=(a6.map at0)) (ys:=u8s (qL U)) 9 1 K a7 (a3+K) (u8s ([]++qX [(ne:Int)]++qL U)) h (h.ownRd' 7) (qF _) (hz:=(qaE _ _).symm) (hy:=(by rw[qab];have:=ai;omega)) (hn2:=(h.own 7).nz) fun u bt bu h dw=>?_);have ct:([]++qX [(ne:Int)]++qL U).length=(a3+K):=by have:=h.len1 9;rwa[hZ]at this
   have Z:([]++qX [(ne:Int)]++qL U:List Int)=qt ne++qL U:=by rw[qcp,ik];rfl
   rw[Z]at h;have aa:(qt ne++qL U).length=(a3+K):=by rw[<-Z];exact ct
   refine q8<|qa5 6 13 (by kernel_rfl) (by decide) ?_ ?_
   ·refine qH 6 _ (by kernel_rfl) rfl (qr (some ⟨a5,(if Q=(1:Int).toNat then 0 else 0+(1:Int).toNat*1),none⟩) ((75::I).length-(1:Int).toNat) (Q-(1:Int).toNat) I (some 160) (by kernel_rfl) (qd9 (h.brd 6) (by omega)) (by omega) ?_);refine q8<|yK 13 (qr (bt.map at0) (a3+K) bu (qt ne++qL U) (some 167) (by kernel_rfl) (h.ownRd' 9) aa ?_);refine q8<|yd [14,15] [] .z ?_;have R:=(qo ag (qj (qq (n:=ne) (by omega)) ao))
    refine yDe (fun a ha=>aj (!(((qe (I))).toList==((qe (qt ne++qL U))).toList)) _ ⟨fun e=>qax fun hh=>absurd hh.1.symm (by rw[L];exact iS (R.symm.trans (by simpa using e))),fun e=>⟨(iB (R.symm.trans (by simpa using e))).symm,ar⟩,h.take 8⟩ a (ha.kp [0,3,4,7,8,10,11,12,15,19,169]))
   refine qH 13 _ (by kernel_rfl) rfl (qr (bt.map at0) (a3+K) bu (qt ne++qL U) (some 167) (by kernel_rfl) (h.ownRd' 9) aa ?_);refine q8<|yK 6 (qr (some ⟨a5,(if Q=(1:Int).toNat then 0 else 0+(1:Int).toNat*1),none⟩) ((75::I).length-(1:Int).toNat) (Q-(1:Int).toNat) I (some 160) (by kernel_rfl) (qd9 (h.brd 6) (by omega)) (by omega) ?_);refine q8<|yd [14,15] [] .z ?_;have R:=(qo ag (qj (qq (n:=ne) (by omega)) ao))
   refine yDe (fun a ha=>aj (!(((qe (I))).toList==((qe (qt ne++qL U))).toList)) _ ⟨fun e=>qax fun hh=>absurd hh.1.symm (by rw[L];exact iS (R.symm.trans (by simpa using e))),fun e=>⟨(iB (R.symm.trans (by simpa using e))).symm,ar⟩,h.take 8⟩ a (ha.kp [0,3,4,7,8,10,11,12,15,19,169]))
  obtain⟨bv,cu,h⟩:=h;refine yc (rY gs) (fun b9=>?_) fun b9=>?_
  ·have bw:=b9;refine ql (eS (eS (eB (qd (qb (nS ?_))))));refine ysr<|yq 4<|yw [212] (rE (kr:Int) (H:Int)) (fun ba=>?_) fun ba=>?_
   ·have dx:=ba;obtain⟨fu,rfl⟩:∃f,fu=f+1:=⟨fu-1,by omega⟩
    have M:=(qaC O (.inr (bv bw))).symm.trans hF;obtain⟨J,W⟩:=il M;have X:sf.r.evs.length=ne:=by rw[<-J];exact L
    have Y:sf.r.keys.length=nk:=by rw[<-J];exact P
    refine yp 13 [] (.l (h.rcx 0 (b:=E) (r:=sf.r) ⟨s,v,A,C,g,F,k,d,B⟩ G qag).c1 .z)<|yw [221] (rE (ne:Int) (sf.r.evs.length:Int)) (fun bb=>?_) fun bb=>?_
    ·have dy:=bb;refine yp 22 [] (.l (h.rcx 0 (b:=E) (r:=sf.r) ⟨s,v,A,C,g,F,k,d,B⟩ G qag).c2 .z)<|ye<|q9 (yR1 (.bool (((nk:Int):Int)==(sf.r.keys.length:Int))) ?_);exact⟨by rw[show(((nk:Int):Int)==(sf.r.keys.length:Int))=true from iR.2 (by omega)],h.ch⟩
    have dz:=bb;exfalso;omega
   have dA:=ba;obtain⟨fu,rfl⟩:∃f,fu=f+1:=⟨fu-1,by omega⟩
   have M:=(qaC O (.inr (bv bw))).symm.trans hF;obtain⟨J,W⟩:=il M;have X:sf.r.evs.length=ne:=by rw[<-J];exact L
   have Y:sf.r.keys.length=nk:=by rw[<-J];exact P
   exfalso;omega
  have cv:=b9;have bx:=cu cv;have ax:=qhd (r:=rs) (U:=U) (l:=I) (by rw[L];exact bx.1) (fun hh=>bx.2 (by rw[aO,<-L];exact(qmC rs _).2 hh));obtain⟨fu,rfl⟩:∃f,fu=f+1:=⟨fu-1,by omega⟩
  have ad:=(qj5 O (by omega) ax).symm.trans hF;have bc:=pre_ky ad;rw[P]at bc;refine yk<|ys<|qaO ([(0,.slice (some ⟨D,ae,none⟩) n cap),(3,pX E),(4,iX (kr:Int)),(7,iX (H:Int)),(8,pX t),(10,iX (ne:Int)),(11,iX (nk:Int)),(12,iX la),(15,iX (ac:Int)),(202,.bool (!((qe ((gky sf.r.keys nk).state)).toList==(qe (qL U)).toList)))]) (fun u=>Sep w (fun _=>False) u [qbX E (qnB ⟨s,v,A,C,g,F,k,d,B⟩ sf.r G) qag,qaf tEv 5 C sf.r.evs.length g (qdi sf.r.evs),qaf qgo 2 F sf.r.keys.length k (qay d sf.r.keys 0),roA (roL ⟨s,v,A,C,g,F,k,d,B⟩ sf.r),qcX (ScOk ⟨s,v,A,C,g,F,k,d,B⟩ sf.r),qau t U,qaf tU8 1 (some a5) (75::I).length Q (u8s ((75::I))),qaf tU8 1 a6 K a7 (u8s (qL U))]) (fun dB bz=>?_) (fun u h=>?_)
  ·refine zDC [28] [0,1,2,3,4,5,6,7] h fun u h=>ydF (uL 0 8) [] h.on (fun u h=>(.l (h.rcx 0 (b:=E) (r:=sf.r) ⟨s,v,A,C,g,F,k,d,B⟩ G qag).c2 .z))<|yv [177] (rM (sf.r.keys.length:Int) (nk:Int)) (fun bd=>?_) fun bd=>?_
   ·have dC:=bd;exfalso;omega
   have dD:=bd;obtain⟨ab,rfl⟩:=(h.rcx 0 (b:=E) (r:=sf.r) ⟨s,v,A,C,g,F,k,d,B⟩ G qag).kb (by omega);refine ydF (uL 8 12) [] h.on (fun u h=>(.l (h.rcx 0 (b:=E) (r:=sf.r) ⟨s,v,A,C,g,some ab,k,d,B⟩ G qag).c2 (.i (nk:Int) (sf.r.keys.length) (.l ((h.rcx 0 (b:=E) (r:=sf.r) ⟨s,v,A,C,g,some ab,k,d,B⟩ G qag).kyx (x:=(nk:Int)) (i:=nk) (by omega) (by omega)).1 .z))))<|yv [189] (rI (((gky sf.r.keys nk).after:Nat):Int) (ne:Int)) (fun bf=>?_) fun bf=>?_
   ·have dE:=bf;exfalso;have:=congrArg Ky.after bc.2;dsimp only at this;omega
   have dF:=bf;refine ydF [20,21,22,23,24,25,26,27,29] [] h.on (fun u h=>(.l (h.rcx 0 (b:=E) (r:=sf.r) ⟨s,v,A,C,g,some ab,k,d,B⟩ G qag).c2 (.i (nk:Int) (sf.r.keys.length) (.l ((h.rcx 0 (b:=E) (r:=sf.r) ⟨s,v,A,C,g,some ab,k,d,B⟩ G qag).kyx (x:=(nk:Int)) (i:=nk) (by omega) (by omega)).2 .z))))<|qa5 28 30 (by kernel_rfl) (by decide) ?_ ?_
   ·refine qH 28 _ (by kernel_rfl) rfl (qr (d nk).1 (d nk).2.1 (d nk).2.2 ((gky sf.r.keys nk).state) (some 198) (by kernel_rfl) ((h.rcx 0 (b:=E) (r:=sf.r) ⟨s,v,A,C,g,some ab,k,d,B⟩ G qag).kr nk (by omega)).1 ((h.rcx 0 (b:=E) (r:=sf.r) ⟨s,v,A,C,g,some ab,k,d,B⟩ G qag).kr nk (by omega)).2.1 ?_);refine zK (is:=[0,1,2,3,4,5,6,7]) h<|yH 30 (qr (a6.map at0) K a7 (qL U) (some 200) (by kernel_rfl) (h.ownRd' 7) ai ?_);refine zH h<|ydF [31,32] [] h.on (fun u h=> .z)<|yDe (fun a ha=>bz _ (h.take 8) a (ha.kp [0,3,4,7,8,10,11,12,15,202]))
   refine qa4 30 _ (by kernel_rfl) rfl (qr (a6.map at0) K a7 (qL U) (some 200) (by kernel_rfl) (h.ownRd' 7) ai ?_);refine zH h<|yK 28 (qr (d nk).1 (d nk).2.1 (d nk).2.2 ((gky sf.r.keys nk).state) (some 198) (by kernel_rfl) ((h.rcx 0 (b:=E) (r:=sf.r) ⟨s,v,A,C,g,some ab,k,d,B⟩ G qag).kr nk (by omega)).1 ((h.rcx 0 (b:=E) (r:=sf.r) ⟨s,v,A,C,g,some ab,k,d,B⟩ G qag).kr nk (by omega)).2.1 ?_);refine q8<|yd [31,32] [] .z<|yDe (fun a ha=>bz _ (h.take 8) a (ha.kp [0,3,4,7,8,10,11,12,15,202]))
  refine yc (rN (rY ((qe ((gky sf.r.keys nk).state)).toList==(qe (qL U)).toList))) (fun bg=>?_) fun bg=>?_
  ·have cw:=bg;exact absurd (by rw[bc.2];exact beq_self_eq_true _) (j0.1 cw)
  have dG:=bg;refine yk<|ysr<|yp 3 [] (.q6 ((nk:Int)+1) .z)<|ye<|q7<|yz 2<|q7<|yp 4 [] (.q6 ((H:Int)+(ac:Int)) .z)<|yE (nB (fun a ha=>bn (⟨⟨rs.start,rs.evs,rs.keys++[⟨rs.evs.length,qL U⟩]⟩,U⟩,H+ac,fu,ne,nk+1,la,(ne:Int)) _ ⟨by rw[jO]at ad;exact ad,by omega,by omega,hO,aM,by omega,L,by show(rs.keys++[_]).length=nk+1;rw[hJ,P];rfl,aN,by show _=keyI ⟨_,_,_⟩;rw[qqz,L],h.take 6⟩ (by show n-(H+_)<n-H;omega) a (ha.kp [0,3,4,7,8,10,11,12,13])))
 have bA:=b7;refine ql (eS (eB (qd (qb (nS ?_)))));refine ysr<|yq 4<|yw [212] (rE (kr:Int) (H:Int)) (fun bh=>?_) fun bh=>?_
 ·have dH:=bh;obtain⟨fu,rfl⟩:∃f,fu=f+1:=⟨fu-1,by omega⟩
  have M:=(qaC O (.inr (qgq bs bA))).symm.trans hF;obtain⟨J,W⟩:=il M;have X:sf.r.evs.length=ne:=by rw[<-J];exact L
  have Y:sf.r.keys.length=nk:=by rw[<-J];exact P
  refine yp 13 [] (.l (h.rcx 0 (b:=E) (r:=sf.r) ⟨s,v,A,C,g,F,k,d,B⟩ G qag).c1 .z)<|yw [221] (rE (ne:Int) (sf.r.evs.length:Int)) (fun bi=>?_) fun bi=>?_
  ·have dI:=bi;refine yp 22 [] (.l (h.rcx 0 (b:=E) (r:=sf.r) ⟨s,v,A,C,g,F,k,d,B⟩ G qag).c2 .z)<|ye<|q9 (yR1 (.bool (((nk:Int):Int)==(sf.r.keys.length:Int))) ?_);exact⟨by rw[show(((nk:Int):Int)==(sf.r.keys.length:Int))=true from iR.2 (by omega)],h.ch⟩
  have dJ:=bi;exfalso;omega
 have dK:=bh;obtain⟨fu,rfl⟩:∃f,fu=f+1:=⟨fu-1,by omega⟩
 have M:=(qaC O (.inr (qgq bs bA))).symm.trans hF;obtain⟨J,W⟩:=il M;have X:sf.r.evs.length=ne:=by rw[<-J];exact L
 have Y:sf.r.keys.length=nk:=by rw[<-J];exact P
 exfalso;omega
theorem qlv (a:Option Addr)(n cap:Nat)(l:List Int)(w:World)(hT:LT w)(h7:gTop<=w.heap.size)(hr:Rd w a (u8s l))(hl:l.length=n)(hle:n<=cap)(hz:(n=0/\cap=0)\/ ∃b o,a=some ⟨b,o,none⟩)(hby:byts l)(hn:n<=9000000)(hBR:∀s k,qd8 qje l=some (s,k)->RcB s.r/\s.r.keys.length<=1800000/\s.r.evs.length<=1800000):CP 29 [.slice a n cap].toArray w (RQ (.bool true) w):=by
 have h:=Sep.nil w;refine yA Tryz.func29 rfl<|yx 1<|ysr<|yq 1<|yo (yC (qfK (dec:=qje) a n cap l _ (qaI h.ch hT (fun _ h=>h.elim)) (im h7 h.ch.size) (hr.ch h.ch fun _ _ h=>h) hl hle hz hby hn decW_B) ?_);rintro _ u ⟨vr,kr,xr,rfl,ai⟩;refine⟨_,rfl,?_⟩;rcases ai with⟨c,rfl,rfl,rfl,aj⟩|⟨f,sf,c,rfl,rfl,V⟩
 ·have h:=h.same aj;refine yz 9<|ysr<|yq 1<|yo (yC (qem (dec:=qje) a n cap l _ (qaI h.ch hT (fun _ h=>h.elim)) (im h7 h.ch.size) (hr.ch h.ch fun _ _ h=>h) hl hle hz hby hn decW_B (fun s k hh=>⟨(hBR s k hh).1,qaM (hBR s k hh).1 (by have:=(hBR s k hh).2.1;omega) true⟩)) ?_);rintro _ u ⟨v2,Q,rfl,W⟩;refine⟨_,rfl,?_⟩;rcases W with⟨I,rfl,rfl,X⟩|⟨J,d,I,rfl,rfl,K⟩
  ·have h:=h.same X;refine yz 7<|ys<|qb9 (σ:=Bool) (fun gs=>[(3,.pointer none),(6,.pointer none),(7,iX 1),(34,.bool gs)]) (fun gs u=>(gs=true->qR qje l=none)/\(gs=false->False)/\Sep w (fun _=>False) u []) (fun aI al=>?_) (fun gs u h=>?_)
   ·refine zD [9,10,12] h fun u h=>yd (uL 0 16) [] .z<|yDe (fun a ha=>al true _ ⟨fun e=>(by unfold qR;rw[c]),fun e=>(by cases e),h.take 0⟩ a (ha.kp [3,6,7,34]))
   obtain⟨R,L,h⟩:=h;refine yc (rY gs) (fun Y=>?_) fun Y=>?_
   ·have aJ:=Y;refine yx 7<|q9 (rS (yR1 (.bool true) ?_));exact⟨rfl,h.ch⟩
   have am:=Y;exact(L am).elim
  obtain⟨Q,S,K⟩:=K.scan;have h:=h.join K;obtain⟨E,F,G,y,A,B,C,D,H⟩:=Q;refine yz 7<|ys<|qb9 (σ:=Bool) (fun gs=>[(3,.pointer none),(6,pX J),(7,iX 0),(34,.bool gs)]) (fun gs u=>(gs=true->qR qje l=none)/\(gs=false->False)/\Sep w (fun _=>False) u [qbX J (qnB ⟨E,F,G,y,A,B,C,D,H⟩ d.r S) qag,qaf tEv 5 y d.r.evs.length A (qdi d.r.evs),qaf qgo 2 B d.r.keys.length C (qay D d.r.keys 0),roA (roL ⟨E,F,G,y,A,B,C,D,H⟩ d.r),qcX (ScOk ⟨E,F,G,y,A,B,C,D,H⟩ d.r)]) (fun aK an=>?_) (fun gs u h=>?_)
  ·refine zD [9,10,12] h fun u h=>yd (uL 0 16) [] .z<|yDe (fun a ha=>an true _ ⟨fun e=>(by unfold qR;rw[c]),fun e=>(by cases e),h.take 5⟩ a (ha.kp [3,6,7,34]))
  obtain⟨R,L,h⟩:=h;refine yc (rY gs) (fun Z=>?_) fun Z=>?_
  ·have ao:=Z;refine yx 7<|q9 (rS (yR1 (xF) ?_));exact absurd I (by rw[show qR qje l=none from R ao];simp)
  have ap:=Z;exact(L ap).elim
 obtain⟨x1,M,V⟩:=V.scan;have h:=h.join V;obtain⟨q,t,v,g,i,j,m,p,x⟩:=x1;refine yz 9<|ysr<|yq 1<|yo (yC (qem (dec:=qje) a n cap l _ (qaI h.ch hT (fun _ h=>h.elim)) (im h7 h.ch.size) (hr.ch h.ch fun _ _ h=>h) hl hle hz hby hn decW_B (fun s k hh=>⟨(hBR s k hh).1,qaM (hBR s k hh).1 (by have:=(hBR s k hh).2.1;omega) true⟩)) ?_);rintro _ u ⟨v2,Q,rfl,W⟩;refine⟨_,rfl,?_⟩;rcases W with⟨I,rfl,rfl,X⟩|⟨J,d,I,rfl,rfl,K⟩
 ·have h:=h.same X;refine yz 7<|ys<|qb9 (σ:=Bool) (fun gs=>[(3,pX f),(6,.pointer none),(7,iX 1),(34,.bool gs)]) (fun gs u=>(gs=true->qR qje l=none)/\(gs=false->qR qje l=some sf)/\Sep w (fun _=>False) u [qbX f (qnB ⟨q,t,v,g,i,j,m,p,x⟩ sf.r M) qag,qaf tEv 5 g sf.r.evs.length i (qdi sf.r.evs),qaf qgo 2 j sf.r.keys.length m (qay p sf.r.keys 0),roA (roL ⟨q,t,v,g,i,j,m,p,x⟩ sf.r),qcX (ScOk ⟨q,t,v,g,i,j,m,p,x⟩ sf.r)]) (fun aL T=>?_) (fun gs u h=>?_)
  ·refine zD [9,10,12] h fun u h=>yd (uL 0 8) [] .z<|yv [26] (rL (kr:Int) (n:Int)) (fun a0=>?_) fun a0=>?_
   ·have aM:=a0;refine yd [8,11] [] .z<|qa5 9 12 (by kernel_rfl) (by decide) ?_ ?_
    ·obtain⟨hW,N,O⟩:=hBR _ _ c;obtain⟨T0,a2,_,P,_⟩:=qhk decW_B hby c;refine qH 9 _ (by kernel_rfl) rfl (yC (qfg f (r1:=sf.r) true _ (h.rcx 0 (b:=f) (r:=sf.r) ⟨q,t,v,g,i,j,m,p,x⟩ M qag) P hW ⟨O,N⟩) ?_);rintro _ u ⟨a8,a3,a9,rfl,ar⟩;refine⟨_,rfl,?_⟩;have h:=h.join ar;have aa:(qbA sf.r true).length=a3:=by have:=h.len1 5;rwa[hZ]at this
     refine q8<|qa5 10 12 (by kernel_rfl) (by decide) ?_ ?_
     ·refine qH 10 _ (by kernel_rfl) rfl (qr (a8.map at0) a3 a9 (qbA sf.r true) (some 29) (by kernel_rfl) (h.ownRd' 5) aa ?_);refine q8<|yK 12 (qr a n cap l (some 31) (by kernel_rfl) (hr.ch h.ch fun _ _ h=>h) hl ?_);refine q8<|yd (uL 13 3) [] .z<|yDe (fun a ha=>T (!(((qe (qbA sf.r true))).toList==((qe (l))).toList)) _ ⟨fun e=>(by unfold qR;rw[c];exact if_pos ⟨by omega,iS ((qo (qaM hW (by omega) true) hby).symm.trans (by simpa using e))⟩),fun e=>(by unfold qR;rw[c];exact if_neg fun hh=>hh.2 (iB ((qo (qaM hW (by omega) true) hby).symm.trans (by simpa using e)))),h.take 5⟩ a (ha.kp [3,6,7,34]))
     refine qH 12 _ (by kernel_rfl) rfl (qr a n cap l (some 31) (by kernel_rfl) (hr.ch h.ch fun _ _ h=>h) hl ?_);refine q8<|yK 10 (qr (a8.map at0) a3 a9 (qbA sf.r true) (some 29) (by kernel_rfl) (h.ownRd' 5) aa ?_);refine q8<|yd (uL 13 3) [] .z<|yDe (fun a ha=>T (!(((qe (qbA sf.r true))).toList==((qe (l))).toList)) _ ⟨fun e=>(by unfold qR;rw[c];exact if_pos ⟨by omega,iS ((qo (qaM hW (by omega) true) hby).symm.trans (by simpa using e))⟩),fun e=>(by unfold qR;rw[c];exact if_neg fun hh=>hh.2 (iB ((qo (qaM hW (by omega) true) hby).symm.trans (by simpa using e)))),h.take 5⟩ a (ha.kp [3,6,7,34]))
    refine qH 12 _ (by kernel_rfl) rfl (qr a n cap l (some 31) (by kernel_rfl) (hr.ch h.ch fun _ _ h=>h) hl ?_);refine q8 ?_;obtain⟨hW,N,O⟩:=hBR _ _ c;obtain⟨T0,a2,_,P,_⟩:=qhk decW_B hby c;refine yK 9 (yC (qfg f (r1:=sf.r) true _ (h.rcx 0 (b:=f) (r:=sf.r) ⟨q,t,v,g,i,j,m,p,x⟩ M qag) P hW ⟨O,N⟩) ?_);rintro _ u ⟨au,ab,av,rfl,aw⟩;refine⟨_,rfl,?_⟩;have h:=h.join aw;have ax:(qbA sf.r true).length=ab:=by have:=h.len1 5;rwa[hZ]at this
    refine q8<|yK 10 (qr (au.map at0) ab av (qbA sf.r true) (some 29) (by kernel_rfl) (h.ownRd' 5) ax ?_);refine q8<|yd (uL 13 3) [] .z<|yDe (fun a ha=>T (!(((qe (qbA sf.r true))).toList==((qe (l))).toList)) _ ⟨fun e=>(by unfold qR;rw[c];exact if_pos ⟨by omega,iS ((qo (qaM hW (by omega) true) hby).symm.trans (by simpa using e))⟩),fun e=>(by unfold qR;rw[c];exact if_neg fun hh=>hh.2 (iB ((qo (qaM hW (by omega) true) hby).symm.trans (by simpa using e)))),h.take 5⟩ a (ha.kp [3,6,7,34]))
   have aN:=a0;refine yd (uL 8 8) [] .z<|yDe (fun a ha=>T false _ ⟨fun e=>(by cases e),fun e=>(by unfold qR;rw[c];exact if_neg fun hh=>absurd hh.1 (by omega)),h.take 5⟩ a (ha.kp [3,6,7,34]))
  obtain⟨R,L,h⟩:=h;refine yc (rY gs) (fun a4=>?_) fun a4=>?_
  ·have aO:=a4;refine yx 7<|q9 (rS (yR1 (.bool true) ?_));exact⟨rfl,h.ch⟩
  have ay:=a4;refine yk<|yx 8<|q9 (yR1 (xF) ?_);exact absurd I (by rw[show qR qje l=some sf from L ay];simp)
 obtain⟨Q,S,K⟩:=K.scan;have h:=h.join K;obtain⟨E,F,G,y,A,B,C,D,H⟩:=Q;refine yz 7<|ys<|qb9 (σ:=Bool) (fun gs=>[(3,pX f),(6,pX J),(7,iX 0),(34,.bool gs)]) (fun gs u=>(gs=true->qR qje l=none)/\(gs=false->qR qje l=some sf)/\Sep w (fun _=>False) u [qbX f (qnB ⟨q,t,v,g,i,j,m,p,x⟩ sf.r M) qag,qaf tEv 5 g sf.r.evs.length i (qdi sf.r.evs),qaf qgo 2 j sf.r.keys.length m (qay p sf.r.keys 0),roA (roL ⟨q,t,v,g,i,j,m,p,x⟩ sf.r),qcX (ScOk ⟨q,t,v,g,i,j,m,p,x⟩ sf.r),qbX J (qnB ⟨E,F,G,y,A,B,C,D,H⟩ d.r S) qag,qaf tEv 5 y d.r.evs.length A (qdi d.r.evs),qaf qgo 2 B d.r.keys.length C (qay D d.r.keys 0),roA (roL ⟨E,F,G,y,A,B,C,D,H⟩ d.r),qcX (ScOk ⟨E,F,G,y,A,B,C,D,H⟩ d.r)]) (fun aP U=>?_) (fun gs u h=>?_)
 ·refine zD [9,10,12] h fun u h=>yd (uL 0 8) [] .z<|yv [26] (rL (kr:Int) (n:Int)) (fun a5=>?_) fun a5=>?_
  ·have aQ:=a5;refine yd [8,11] [] .z<|qa5 9 12 (by kernel_rfl) (by decide) ?_ ?_
   ·obtain⟨hW,N,O⟩:=hBR _ _ c;obtain⟨T0,a2,_,P,_⟩:=qhk decW_B hby c;refine qH 9 _ (by kernel_rfl) rfl (yC (qfg f (r1:=sf.r) true _ (h.rcx 0 (b:=f) (r:=sf.r) ⟨q,t,v,g,i,j,m,p,x⟩ M qag) P hW ⟨O,N⟩) ?_);rintro _ u ⟨ac,a6,ad,rfl,az⟩;refine⟨_,rfl,?_⟩;have h:=h.join az;have ae:(qbA sf.r true).length=a6:=by have:=h.len1 10;rwa[hZ]at this
    refine q8<|qa5 10 12 (by kernel_rfl) (by decide) ?_ ?_
    ·refine qH 10 _ (by kernel_rfl) rfl (qr (ac.map at0) a6 ad (qbA sf.r true) (some 29) (by kernel_rfl) (h.ownRd' 10) ae ?_);refine q8<|yK 12 (qr a n cap l (some 31) (by kernel_rfl) (hr.ch h.ch fun _ _ h=>h) hl ?_);refine q8<|yd (uL 13 3) [] .z<|yDe (fun a ha=>U (!(((qe (qbA sf.r true))).toList==((qe (l))).toList)) _ ⟨fun e=>(by unfold qR;rw[c];exact if_pos ⟨by omega,iS ((qo (qaM hW (by omega) true) hby).symm.trans (by simpa using e))⟩),fun e=>(by unfold qR;rw[c];exact if_neg fun hh=>hh.2 (iB ((qo (qaM hW (by omega) true) hby).symm.trans (by simpa using e)))),h.take 10⟩ a (ha.kp [3,6,7,34]))
    refine qH 12 _ (by kernel_rfl) rfl (qr a n cap l (some 31) (by kernel_rfl) (hr.ch h.ch fun _ _ h=>h) hl ?_);refine q8<|yK 10 (qr (ac.map at0) a6 ad (qbA sf.r true) (some 29) (by kernel_rfl) (h.ownRd' 10) ae ?_);refine q8<|yd (uL 13 3) [] .z<|yDe (fun a ha=>U (!(((qe (qbA sf.r true))).toList==((qe (l))).toList)) _ ⟨fun e=>(by unfold qR;rw[c];exact if_pos ⟨by omega,iS ((qo (qaM hW (by omega) true) hby).symm.trans (by simpa using e))⟩),fun e=>(by unfold qR;rw[c];exact if_neg fun hh=>hh.2 (iB ((qo (qaM hW (by omega) true) hby).symm.trans (by simpa using e)))),h.take 10⟩ a (ha.kp [3,6,7,34]))
   refine qH 12 _ (by kernel_rfl) rfl (qr a n cap l (some 31) (by kernel_rfl) (hr.ch h.ch fun _ _ h=>h) hl ?_);refine q8 ?_;obtain⟨hW,N,O⟩:=hBR _ _ c;obtain⟨T0,a2,_,P,_⟩:=qhk decW_B hby c;refine yK 9 (yC (qfg f (r1:=sf.r) true _ (h.rcx 0 (b:=f) (r:=sf.r) ⟨q,t,v,g,i,j,m,p,x⟩ M qag) P hW ⟨O,N⟩) ?_);rintro _ u ⟨aA,af,aB,rfl,aC⟩;refine⟨_,rfl,?_⟩;have h:=h.join aC;have aD:(qbA sf.r true).length=af:=by have:=h.len1 10;rwa[hZ]at this
   refine q8<|yK 10 (qr (aA.map at0) af aB (qbA sf.r true) (some 29) (by kernel_rfl) (h.ownRd' 10) aD ?_);refine q8<|yd (uL 13 3) [] .z<|yDe (fun a ha=>U (!(((qe (qbA sf.r true))).toList==((qe (l))).toList)) _ ⟨fun e=>(by unfold qR;rw[c];exact if_pos ⟨by omega,iS ((qo (qaM hW (by omega) true) hby).symm.trans (by simpa using e))⟩),fun e=>(by unfold qR;rw[c];exact if_neg fun hh=>hh.2 (iB ((qo (qaM hW (by omega) true) hby).symm.trans (by simpa using e)))),h.take 10⟩ a (ha.kp [3,6,7,34]))
  have aR:=a5;refine yd (uL 8 8) [] .z<|yDe (fun a ha=>U false _ ⟨fun e=>(by cases e),fun e=>(by unfold qR;rw[c];exact if_neg fun hh=>absurd hh.1 (by omega)),h.take 10⟩ a (ha.kp [3,6,7,34]))
 obtain⟨R,L,h⟩:=h;refine yc (rY gs) (fun a7=>?_) fun a7=>?_
 ·have aE:=a7;refine yx 7<|q9 (rS (yR1 (xF) ?_));exact absurd I (by rw[show qR qje l=none from R aE];simp)
 have aF:=a7;refine yk<|ysr<|yq 5 ?_;obtain rfl:d=sf:=zi (I.symm.trans (show qR qje l=some sf from L aF));obtain⟨ag,_,_⟩:=hBR _ _ c;refine yo (yC (qnN J f _ (h.rcx 5 (b:=J) (r:=d.r) ⟨E,F,G,y,A,B,C,D,H⟩ S qag) (h.rcx 0 (b:=f) (r:=d.r) ⟨q,t,v,g,i,j,m,p,x⟩ M qag) ag ag) ?_);rintro _ u ⟨ah,rfl,aG,aH⟩;refine⟨_,rfl,?_⟩;have h:=h.same aH;refine yz 8<|q9 (yR1 (.bool ah) ?_);exact⟨by rw[show ah=true from aG.2 rfl],h.ch⟩
theorem qqB {l:List Int}(hb:byts l)(h:¬(qa1 l).2=0):(qt (qa1 l).1).length<=(qa1 l).2/\(qa1 l).2<=l.length:=by
 have a:=(qiR hb).1;obtain⟨n,k,hT⟩:∃n k,qa1 l=(n,k):=⟨_,_,rfl⟩
 rw[hT]at h a⊢;dsimp only at h a⊢;obtain⟨b,_,_⟩:=(qfx hb hT).resolve_left h;have c:=congrArg List.length b;rw[hJ,iC]at c;exact⟨by omega,a⟩
theorem qfh {lim x:Int}{l r:List Int}(hb:byts l)(h:qK lim (some l)=(x,some r)):(qt x.toNat).length+r.length<=l.length/\byts r:=by
 unfold qK at h;dsimp only at h;split at h
 ·obtain⟨_,a⟩:=il h;cases a
 ·rename_i hn
  obtain⟨b,a⟩:=il h;obtain rfl:=ia a;have c:¬(qa1 l).2=0:=fun e=>hn (.inl e);obtain⟨d,f⟩:=qqB hb c;rw[<-b,ik,iC];exact⟨by omega,fun y hy=>hb y (iT hy)⟩
theorem qqC {most:Int}{x:ByteArray}{l r:List Int}(hb:byts l)(h:qaU most (some l)=(x,some r)):(qbk x).length+r.length<=l.length:=by
 unfold qaU at h;split at h
 ·obtain⟨_,a⟩:=il h;cases a
 ·rename_i n ys hN
  split at h
  ·obtain⟨_,a⟩:=il h;cases a
  ·rename_i d
   obtain⟨b,a⟩:=il h;obtain rfl:=ia a;obtain⟨f,_⟩:=qfh hb hN;have c:x.size=n.toNat:=by
    rw[<-b];have:(qe (ys.take n.toNat)).data.toList.length=(ys.take n.toNat).length:=by rw[qbU,hZ]
    have e:(qe (ys.take n.toNat)).size=(qe (ys.take n.toNat)).data.toList.length:=rfl;rw[e,this,io];omega
   unfold qbk;rw[hJ,qdS,c,iC];omega
theorem evR_len {fr:Int}{l r:List Int}{e:Ev}(hb:byts l)(h:evR fr (some l)=(some e,some r)):(evI fr e).length+r.length<=l.length:=by
 unfold evR at h;dsimp only at h;have g:∀lim,(qK lim none).2=none:=fun _=>rfl;have o:∀m,(qaU m none).2=none:=fun _=>rfl;cases p:(qK 4 (some l)).2 with
 |none=>rw[p,g]at h;split at h<;>simp[g,o]at h
 |some i=>
  obtain⟨k,hk⟩:∃k,qK 4 (some l)=(k,some i):=⟨_,Prod.ext rfl p⟩
  obtain⟨z,u⟩:=qfh hb hk;rw[hk]at h;dsimp only at h;cases q:(qK 4611686018427387904 (some i)).2 with
  |none=>rw[q]at h;split at h<;>simp[g,o]at h
  |some b=>
   obtain⟨d,hd⟩:∃d,qK 4611686018427387904 (some i)=(d,some b):=⟨_,Prod.ext rfl q⟩
   obtain⟨A,s⟩:=qfh u hd;rw[hd]at h;dsimp only at h;split at h
   ·rename_i j
    cases c:(qK 1001 (some b)).2 with
    |none=>rw[c]at h;simp[g]at h
    |some f=>
     obtain⟨W,hW⟩:∃W,qK 1001 (some b)=(W,some f):=⟨_,Prod.ext rfl c⟩
     obtain⟨v,w⟩:=qfh s hW;rw[hW]at h;dsimp only at h;cases t:(qK 1001 (some f)).2 with
     |none=>rw[t]at h;simp at h
     |some y=>
      obtain⟨H,hH⟩:∃H,qK 1001 (some f)=(H,some y):=⟨_,Prod.ext rfl t⟩
      obtain⟨B,_⟩:=qfh w hH;rw[hH]at h;dsimp only at h;obtain⟨a,n⟩:=il h;obtain rfl:=ia n;split at a
      ·rw[<-ia a]
       unfold evI;dsimp only;rw[if_pos j,hJ,hJ,hJ,show fr+d-fr=d by omega];omega
      ·cases a
   ·rename_i j
    cases c:(qaU 400 (some b)).2 with
    |none=>rw[c]at h;simp at h
    |some f=>
     obtain⟨x,hx⟩:∃x,qaU 400 (some b)=(x,some f):=⟨_,Prod.ext rfl c⟩
     have v:=qqC s hx;rw[hx]at h;dsimp only at h;obtain⟨a,n⟩:=il h;obtain rfl:=ia n;split at a
     ·rw[<-ia a]
      unfold evI;dsimp only;rw[if_neg j,hJ,hJ,show fr+d-fr=d by omega];omega
     ·cases a
theorem qkF:∀(f:Nat) {a b:Nat},a<=b->(qfw f a).length<=(qfw f b).length
 |0,_,_,_=>iD _
 |f+1,a,b,h=>by
  unfold qfw
  split
  ·split
   ·exact iD _
   ·exact Nat.succ_le_succ (ip _)
  ·rw[if_neg (by omega),iy,iy]
   exact Nat.succ_le_succ (qkF f (Nat.div_le_div_right h))
theorem qnQ {a b:List Int}(h:a.length<=b.length):(qa0 a).length<=(qa0 b).length:=by
 have:=qkF 9 h;rw[qbj,qbj];show(qfw 9 a.length).length+_+_<=(qfw 9 b.length).length+_+_;omega
theorem qmE {l:List Int}(h:¬(qaD l).2=0):(qa0 (qaD l).1).length=(qaD l).2:=by
 unfold qaD at h⊢;split at h
 ·exact absurd rfl h
 ·rename_i b
  rw[if_neg b];split at h
  ·rename_i a
   rw[if_pos a];dsimp only;rw[a,io];omega
  ·exact absurd rfl h
def evW (l:List Ev):Nat->Nat
 |0=>0
 |k+1=>evW l k+(qP 69 (evI (qY l k) (ge l k))).length
def kyW (l:List Ky):Nat->Nat
 |0=>0
 |k+1=>kyW l k+(qP 75 (qS (gky l k))).length
theorem qqD (l:List Ev)(m:List Ev):∀k,k<=l.length->evW (l++m) k=evW l k
 |0,_=>rfl
 |k+1,h=>by rw[evW,evW,qqD l m k (by omega),qfa _ (by omega),qh8 _ (by omega)]
theorem qqE (l:List Ky)(q:Ky):∀k,k<=l.length->kyW (l++[q]) k=kyW l k
 |0,_=>rfl
 |k+1,h=>by rw[kyW,kyW,qqE l q k (by omega),qhj (by omega)]
theorem evW_mono (l:List Ev){a b:Nat}(h:a<=b):evW l a<=evW l b:=by
 induction b with
 |zero=>rw[show a=0 by omega];exact iD _
 |succ b ih=>
  rcases iJ a (b+1)with c|c
  ·have:=ih (by omega);rw[evW];omega
  ·rw[show a=b+1 by omega];exact iD _
theorem kyW_mono (l:List Ky){a b:Nat}(h:a<=b):kyW l a<=kyW l b:=by
 induction b with
 |zero=>rw[show a=0 by omega];exact iD _
 |succ b ih=>
  rcases iJ a (b+1)with c|c
  ·have:=ih (by omega);rw[kyW];omega
  ·rw[show a=b+1 by omega];exact iD _
abbrev allW (r:Rc):Nat:=(qP 83 r.start).length+evW r.evs r.evs.length+kyW r.keys r.keys.length
theorem qqF (r:Rc):∀i,(qk r i).k<=r.keys.length/\(qk r i).out.length<=(qP 83 r.start).length+evW r.evs (min i r.evs.length)+kyW r.keys (qk r i).k
 |0=>⟨ip _,by show(qP 83 r.start).length<=_;omega⟩
 |i+1=>by
  obtain⟨h1,h2⟩:=qqF r i
  have h3:=qqk r i (qk r i) h1
  have h5:(qbB r i (qk r i)).out.length<=(qP 83 r.start).length+evW r.evs (min i r.evs.length)+kyW r.keys (qbB r i (qk r i)).k:=by
   unfold qbB;split
   ·dsimp only
    rw[hJ,kyW];omega
   ·exact h2
  show(evP r i (qbB r i (qk r i))).k<=_/\(evP r i (qbB r i (qk r i))).out.length<=_+kyW r.keys (evP r i (qbB r i (qk r i))).k;rw[evP_k];refine⟨h3.1,?_⟩;unfold evP;split
  ·rename_i hc
   dsimp only;rw[hJ,jB (by omega),evW];rw[jB (by omega)]at h5;omega
  ·rw[Nat.min_eq_right (by omega)]
   rw[Nat.min_eq_right (by omega)]at h5;exact h5
theorem qqG (r:Rc)(i:Nat):(qk r i).out.length<=allW r:=by
 obtain⟨a,b⟩:=qqF r i;have c:=evW_mono r.evs (Nat.min_le_right i r.evs.length);have d:=kyW_mono r.keys a;unfold allW;omega
theorem take_w {s s':Sc}{f:List Int}(hb:byts f)(h:qaQ s f=some s'):allW s'.r<=allW s.r+(qa0 f).length:=by
 obtain⟨⟨st,evs,j⟩,T⟩:=s;unfold qaQ at h;split at h
 ·cases h
 ·rename_i c b
  have i:byts b:=fun x hx=>hb x (iW _ hx);split at h
  ·rename_i hc
   subst hc;unfold qg3 at h;split at h
   ·rename_i e he
    obtain rfl:=ia h;have g:=evR_len i he;have k:=qnQ (a:=69::evI (qam evs) e) (b:=69::b) (by simp only[iy]at g⊢;omega);dsimp only[allW];rw[hJ,j1,evW,qqD _ _ _ (iD _),qfa _ (iD _),qfD];show _<=_+(qa0 (69::b)).length;have d:(qP 69 (evI (qY evs evs.length) e)).length=(qa0 (69::evI (qam evs) e)).length:=rfl;omega
   ·cases h
  ·split at h
   ·rename_i hc
    subst hc;unfold qks at h;split at h
    ·rename_i hk
     dsimp only at hk;obtain rfl:=ia h;dsimp only[allW];rw[hJ,j1,kyW,qqE _ _ _ (iD _),qj9];have d:qP 75 (qS ⟨evs.length,qL T⟩)=qa0 (75::b):=by rw[hk.1];rfl
     rw[d];omega
    ·cases h
   ·cases h
theorem qqH:∀{n:Nat} {s s':Sc} {l:List Int} {a k:Nat},byts l->qc2 n s l a=(s',k)->allW s.r<=a->allW s'.r<=k
 |0,s,s',l,a,k,_,h,ho=>by obtain⟨rfl,rfl⟩:=il h;exact ho
 |n+1,s,s',l,a,k,hb,h,ho=>by
  rw[qc2]at h
  split at h
  ·obtain⟨rfl,rfl⟩:=il h;exact ho
  ·rename_i h0
   split at h
   ·obtain⟨rfl,rfl⟩:=il h;exact ho
   ·rename_i s1 h1
    have g1:=take_w (qco hb) h1
    rw[qmE h0]at g1
    exact qqH (fun x hx=>hb x (iT hx)) h (by omega)
theorem read_w {dec:List Int->Option TS}{l:List Int}{s:Sc}{k:Nat}(hb:byts l)(h:qd8 dec l=some (s,k)):allW s.r<=k:=by
 unfold qd8 at h;split at h
 ·cases h
 ·rename_i a
  split at h
  ·cases h
  ·rename_i c b hx
   split at h
   ·rename_i hc
    subst hc;cases hdb:dec b with
    |none=>rw[hdb]at h;cases h
    |some T=>
     rw[hdb]at h;refine qqH (fun x hm=>hb x (iT hm)) (ia h) ?_;have d:=qmE a;rw[hx]at d;show(qa0 (83::b)).length+0+0<=_;omega
   ·cases h
theorem read_b {dec:List Int->Option TS}(hd:DecW dec){l:List Int}{s:Sc}{k:Nat}(hb:byts l)(hl:l.length<=9000000)(h:qd8 dec l=some (s,k)):RcB s.r/\s.r.keys.length<=1800000/\s.r.evs.length<=1800000:=by
 obtain⟨t,hT,d,g,b,u,hk,c,v,w⟩:=qhk hd hb h;have hw:=read_w hb h;have m:s.r.start.length<=1000000:=by
  have hq:∃a,qiV (some s.r.start)=some a:=by
   cases hq:qiV (some s.r.start)with
   |none=>rw[hd.no _ c hq]at d;cases d
   |some a=>exact⟨a,rfl⟩
  obtain⟨a,hq⟩:=hq;obtain⟨ys,n,o,hD⟩:=qh0 (s:=some s.r.start) (fun zs e=>by obtain rfl:=ia e;exact c) hq;have:=qc1 hD;obtain rfl:=ia n;rw[o]at*;omega
 refine⟨⟨⟨c,m⟩,fun j hj=>?_,fun i hi=>⟨b.evb i hi,b.tm i hi⟩,fun i=>by have:=qqG s.r i;omega⟩,by omega,by omega⟩;obtain⟨p,q⟩:=g.ks j hj;have f:=(hT.fold b _ p).dec;rw[q];exact⟨qcc f,by have:=qc1 f;omega,by omega⟩
end Go.Proofs.YtjjcnhgpccancaaGreatDoor.X

namespace Go.Proofs.YtjjcnhgpccancaaGreatDoor.X
open Go Go.RowKit Go.Proofs.YtjjcnhgpccancaaGreatDoor
theorem any13_any (D:Nat)(a:Option Addr)(n c:Nat)(l:List Int)(w:World)(hT:LT w)(h7:gTop<=w.heap.size)(hr:Rd w a (u8s l))(hl:l.length=n)(hle:n<=c)(hz:(n=0/\c=0)\/ ∃o,a=some ⟨D,o,none⟩)(hby:byts l)(hD:D<w.heap.size)(hmx:c<=maxLen):CP 7 [.slice a n c].toArray w (RQ (.bool true) w):=by
 have d:c<=9223372036854775807:=hmx;have h:=Sep.nil w;refine yA Tryz.func7 rfl<|yx 1<|ys<|ysr<|yo (yQ (h.look (qqo _ (qaI h.ch hT (fun _ h=>h.elim)) (im h7 h.ch.size))) fun u h=>?_);refine yz 2<|ycf<|yk<|ys<|yx 3<|yc (rL 3000 (n:Int)) (fun b=>?_) fun b=>?_
 ·have f:=b;refine yx 1<|q9 (rS (yR1 (.bool true) ?_));exact⟨rfl,h.ch⟩
 have g:=b;refine yk<|ysr<|yq 1<|yo (yQ (h.look (qlu a n c l _ (qaI h.ch hT (fun _ h=>h.elim)) (im h7 h.ch.size) (hr.ch h.ch fun _ _ h=>h) hl hle (hz.imp id fun⟨o,e⟩=>⟨D,o,e⟩) hby (by omega))) fun u h=>?_);refine yq 4<|yo (yQ (h.look (qlv a n c l _ (qaI h.ch hT (fun _ h=>h.elim)) (im h7 h.ch.size) (hr.ch h.ch fun _ _ h=>h) hl hle (hz.imp id fun⟨o,e⟩=>⟨D,o,e⟩) hby (by omega) (fun s k hh=>read_b decW_B hby (by omega) hh))) fun u h=>?_);refine yz 7<|q9 (yR1 (.bool true) ?_);exact⟨rfl,h.ch⟩
end Go.Proofs.YtjjcnhgpccancaaGreatDoor.X
namespace Go.Proofs.YtjjcnhgpccancaaGreatDoor
open Go.ChangeShapes Go.WideShapes Go.ChangeAt Go.RowKit
theorem qlw:ownKnob Tryz.prog.godebug=none:=by kernel_rfl
abbrev qnR:List (String×DataW Unit):=[("flipbook/glyph.wide",Rows.laid_flipbook_glyph_wide),("flipbook/glyph.signs",Rows.laid_flipbook_glyph_signs),("math/bits.deBruijn32tab",Rows.laid_math_bits_deBruijn32tab),("math/bits.deBruijn64tab",Rows.laid_math_bits_deBruijn64tab),("internal/strconv.uint64pow10",Rows.laid_internal_strconv_uint64pow10),("unicode/utf8.acceptRanges",Rows.laid_unicode_utf8_acceptRanges),("unicode/utf8.first",Rows.laid_unicode_utf8_first)]
theorem doorMet (os:Os)(args:Array Value):laidMetH Tryz.prog qnR ((World.laidAll Tryz.prog os qnR).forCall (fun _ _=>0) ⟨#[],args,[]⟩).memory:=by
 rw[MakeChecks.laidMetH_plain _ _ _ (by kernel_rfl)];exact laidMet_laidAll _ (by kernel_rfl) (by kernel_rfl)
theorem qnS (os:Os):(World.laidAll Tryz.prog os qnR).Shaped Tryz.prog:=World.shaped_of_ZipB (by kernel_rfl) (by kernel_rfl)
theorem qcE {W:World}{g n t:Nat}{k:IntKind}{e:TypeId}(he:Tryz.prog.underlying e=some (.int k))(ce:Tryz.prog.cellsOf e=1){name:String}{cs:Array Value}{fuel:Nat}{l:List Int}{q:List MemPlace}(hg:Tryz.prog.globalNamed name=some g)(hv:W.var? Tryz.prog name=some cs)
  (hd:DataW.trod (H:=Unit) (fun _=>()) Tryz.prog W 0 (fun _=>true) false fuel t cs.toList=some (.agg (l.map fun n=> .lit (.int k n)),q))
  (ht:Tryz.prog.underlying t=some (.array n e)) (hl:l.length=n):∀r,r<l.length->W.cell? ⟨g,r,none⟩=some (.int k (l.getD r 0)):=by
 obtain⟨xs,m,_,ex,_,i,b⟩:=DataW.trod_array ht hd;intro r hr;have hE:=b r (by omega);rw[ce,Nat.mul_one,List.getElem?_eq_getElem (by omega)]at hE;obtain⟨z,c,d,_⟩:=DataW.trod_int he hE;have f:(xs.map (·.1))=l.map fun n=> .lit (.int k n):=(DataW.agg.inj (Prod.mk.inj ex).1).symm;have a:(xs.map (·.1))[r]? =(l.map fun n=>(DataW.lit (.int k n):DataW Unit))[r]? :=by rw[f]
 rw[List.getElem?_map,List.getElem?_map,List.getElem?_eq_getElem (by omega:r<xs.length),List.getElem?_eq_getElem (by omega:r<l.length),d]at a;have hz:z=l.getD r 0:=by
  simp only[Option.map_some,Option.some.injEq,DataW.lit.injEq,Lit.int.injEq,true_and]at a;rw[a,List.getD,List.getElem?_eq_getElem (by omega:r<l.length)];rfl
 rw[World.var?_cell hg hv r,<-hz];have:cs.toList[r]? =some (.int k z):=by
  have h:((cs.toList.drop r).take 1)[0]? =some (.int k z):=by rw[c];rfl
  simpa using h
 simpa using this
theorem qja {W:World}{g n t e u:Nat}{k:IntKind}{fs:Array Field}(hs:Tryz.prog.underlying e=some (.struct fs))(h0:∃f,fs[0]? =some f/\f.type=u/\f.offset=0)(h1:∃f,fs[1]? =some f/\f.type=u/\f.offset=1)(hz:fs.size=2)(hu:Tryz.prog.underlying u=some (.int k))(ce:Tryz.prog.cellsOf e=2)(cu:Tryz.prog.cellsOf u=1)
  {name:String} {cs:Array Value} {fuel:Nat} {l:List (Int×Int)} {q:List MemPlace} (hg:Tryz.prog.globalNamed name=some g) (hv:W.var? Tryz.prog name=some cs)
  (hd:DataW.trod (H:=Unit) (fun _=>()) Tryz.prog W 0 (fun _=>true) false fuel t cs.toList=some (.agg (l.map fun p=> .agg [.lit (.int k p.1),.lit (.int k p.2)]),q))
  (ht:Tryz.prog.underlying t=some (.array n e)) (hl:l.length=n):∀r p,l[r]? =some p->W.cell? ⟨g,r*2,none⟩=some (.int k p.1)/\W.cell? ⟨g,r*2+1,none⟩=some (.int k p.2):=by
 obtain⟨xs,m,_,ex,_,J,o⟩:=DataW.trod_array ht hd;intro r p hp;have hr:r<l.length:=(List.getElem?_eq_some_iff.1 hp).1;have hE:=o r (by omega);rw[ce,List.getElem?_eq_getElem (by omega)]at hE;have s:(xs.map (·.1))=l.map fun p=> .agg [.lit (.int k p.1),.lit (.int k p.2)]:=(DataW.agg.inj (Prod.mk.inj ex).1).symm;have a:(xs.map (·.1))[r]? =(l.map fun p=>(DataW.agg [.lit (.int k p.1),.lit (.int k p.2)]:DataW Unit))[r]? :=by rw[s]
 rw[List.getElem?_map,List.getElem?_map,List.getElem?_eq_getElem (by omega:r<xs.length),hp]at a;simp only[Option.map_some,Option.some.injEq]at a;obtain⟨ys,K,_,ey,_,v,i⟩:=DataW.trod_struct hs hE;rw[ey]at a;have j:=DataW.agg.inj a;obtain⟨f0,w,x,y⟩:=h0;obtain⟨f1,z,A,B⟩:=h1;have b:=i 0 f0 w;have c:=i 1 f1 z;rw[x,y,cu,List.drop_zero,List.take_take]at b;rw[A,B,cu]at c;have hy:ys.length=2:=by rw[v,hz]
 rw[List.getElem?_eq_getElem (by omega)]at b c;obtain⟨L,C,D,_⟩:=DataW.trod_int hu b;obtain⟨M,E,F,_⟩:=DataW.trod_int hu c;have d:(ys.map (·.1))[0]? =some (.lit (.int k p.1)):=by rw[j];rfl
 have h:(ys.map (·.1))[1]? =some (.lit (.int k p.2)):=by rw[j];rfl
 rw[List.getElem?_map,List.getElem?_eq_getElem (by omega),D]at d;rw[List.getElem?_map,List.getElem?_eq_getElem (by omega),F]at h;simp only[Option.map_some,Option.some.injEq,DataW.lit.injEq,Lit.int.injEq,true_and]at d h;subst d h;have G:cs.toList[r*2]? =some (.int k p.1):=by
  have h0:((cs.toList.drop (r*2)).take (min 1 2))[0]? =some (.int k p.1):=by rw[C];rfl
  simpa using h0
 have I:cs.toList[r*2+1]? =some (.int k p.2):=by
  have h0:((((cs.toList.drop (r*2)).take 2).drop 1).take 1)[0]? =some (.int k p.2):=by rw[E];rfl
  simpa using h0
 exact⟨by rw[World.var?_cell hg hv];simpa using G,by rw[World.var?_cell hg hv];simpa using I⟩
def firstL:List Int:=(List.range 256).map X.firstN
def accL:List (Int×Int):=(List.range 16).map X.accN
theorem qjb {c:Nat}(h:c<256):firstL.length=256/\firstL.getD c 0=X.firstN c:=by
 have e:firstL.length=256:=by simp[firstL]
 refine⟨e,?_⟩;rw[List.getD,firstL,List.getElem?_map,List.getElem?_range h];rfl
theorem acc_at {i:Nat}(h:i<16):accL[i]? =some (X.accN i):=by
 rw[accL,List.getElem?_map,List.getElem?_range h];rfl
set_option maxRecDepth 100000 in
theorem qnT {W:World}(h:laidMetH Tryz.prog qnR W):X.LT W:=by
 rw[MakeChecks.laidMetH_plain _ _ _ (by kernel_rfl)]at h;obtain⟨ps,⟨G,H,I,f0,J,K,a,o,q,r,⟨L,M,N,f1,O,P,b,s,t,v,⟨Q,R,S,f2,T,U,V,Y,Z,a0,⟨g3,t3,a3,f3,p3,q3,a6,a7,a8,a9,⟨g4,t4,ac,f4,p4,q4,d,w,x,y,⟨g5,t5,ah,f5,p5,q5,f,z,A,g,⟨g6,t6,am,f6,p6,q6,j,B,C,m,_,_⟩,_⟩,_⟩,_⟩,_⟩,_⟩,_⟩,_,_⟩:=h;obtain rfl:=Option.some.inj ((show Tryz.prog.globalNamed "flipbook/glyph.wide" =some 0 by kernel_rfl).symm.trans a)
 obtain rfl:=Option.some.inj ((show Tryz.prog.globalNamed "flipbook/glyph.signs" =some 3 by kernel_rfl).symm.trans b)
 obtain rfl:=Option.some.inj ((show Tryz.prog.globalNamed "internal/strconv.uint64pow10" =some 4 by kernel_rfl).symm.trans d)
 obtain rfl:=Option.some.inj ((show Tryz.prog.globalNamed "unicode/utf8.acceptRanges" =some 2 by kernel_rfl).symm.trans f)
 obtain rfl:=Option.some.inj ((show Tryz.prog.globalNamed "unicode/utf8.first" =some 1 by kernel_rfl).symm.trans j)
 obtain rfl:=Option.some.inj ((show(Tryz.prog.globals[0]?).map (·.type)=some 258 by kernel_rfl).symm.trans o);obtain rfl:=Option.some.inj ((show(Tryz.prog.globals[3]?).map (·.type)=some 270 by kernel_rfl).symm.trans s);obtain rfl:=Option.some.inj ((show(Tryz.prog.globals[4]?).map (·.type)=some 284 by kernel_rfl).symm.trans w);obtain rfl:=Option.some.inj ((show(Tryz.prog.globals[2]?).map (·.type)=some 262 by kernel_rfl).symm.trans z);obtain rfl:=Option.some.inj ((show(Tryz.prog.globals[1]?).map (·.type)=some 259 by kernel_rfl).symm.trans B);have D:Rows.laid_unicode_utf8_first= .agg (firstL.map fun n=> .lit (.int .u8 n)):=by kernel_rfl
 rw[D]at m;have E:(Rows.laid_unicode_utf8_acceptRanges:DataW Unit)= .agg (accL.map fun p=> .agg [.lit (.int .u8 p.1),.lit (.int .u8 p.2)]):=by kernel_rfl
 rw[E]at g;refine⟨⟨qcE (k:= .i32) (e:=21) (by kernel_rfl) (by kernel_rfl) a q r (by kernel_rfl) rfl,qcE (k:= .i32) (e:=21) (by kernel_rfl) (by kernel_rfl) b t v (by kernel_rfl) rfl⟩,⟨fun c hc=>?_,fun i hi=>?_⟩,fun i hi=>?_⟩
 ·have:=qcE (k:= .u8) (e:=5) (by kernel_rfl) (by kernel_rfl) j C m (by kernel_rfl) (qjb hc).1 c (by rw[(qjb hc).1];exact hc)
  rw[(qjb hc).2]at this;exact this
 ·exact qja (k:= .u8) (e:=261) (u:=5) Tryz.underlying261 ⟨_,rfl,rfl,rfl⟩ ⟨_,rfl,rfl,rfl⟩ rfl Tryz.underlying5 (by kernel_rfl) (by kernel_rfl) f A g Tryz.underlying262 (by simp[accL]) i _ (acc_at hi)
 ·have F:=qcE (k:= .u64) (e:=110) (l:=[1,10,100,1000,10000,100000,1000000,10000000,100000000,1000000000,10000000000,100000000000,1000000000000,10000000000000,100000000000000,1000000000000000,10000000000000000,100000000000000000,1000000000000000000,10000000000000000000]) (by kernel_rfl) (by kernel_rfl) d x y (by kernel_rfl) rfl i (Nat.lt_of_lt_of_le hi (by decide))
  rw[F];obtain rfl|rfl|rfl:i=0\/i=1\/i=2:=by omega
  all_goals rfl
end Go.Proofs.YtjjcnhgpccancaaGreatDoor
namespace Go.Proofs.YtjjcnhgpccancaaGreatDoor
open Go.ChangeShapes Go.WideShapes Go.ChangeAt Go.RowKit
theorem qlx {w w':World}(h:X.Ch (fun _=>False) w w'):Below w.heap.size w w':=⟨h.os,h.tape,h.output,h.size,fun k hk=>h.block k hk id⟩
theorem qhl {W:World}(h:laidMetH Tryz.prog qnR W):X.gTop<=W.heap.size:=by
 rw[MakeChecks.laidMetH_plain _ _ _ (by kernel_rfl)]at h;obtain⟨ps,⟨g,i,j,f0,k,l,n,o,p,q,⟨r,s,t,f1,u,x,y,z,A,B,⟨C,D,E,f2,F,G,I,J,K,L,⟨M,N,a,f3,O,Q,b,c,d,e,_,_⟩,_⟩,_⟩,_⟩,_,_⟩:=h;obtain rfl:=Option.some.inj ((show Tryz.prog.globalNamed "math/bits.deBruijn64tab" =some 6 by kernel_rfl).symm.trans b)
 obtain rfl:=Option.some.inj ((show(Tryz.prog.globals[6]?).map (·.type)=some 288 by kernel_rfl).symm.trans c);obtain⟨xs,m,_,_,f,_⟩:=DataW.trod_array Tryz.underlying288 e;have hl:a.toList.length=64:=f.trans (by kernel_rfl);have hc:=World.var?_cell b d 0;have:∃v,a[0]? =some v:=⟨_,Array.getElem?_eq_getElem (by simpa using(show 0<a.toList.length by omega))⟩
 obtain⟨v,hv⟩:=this;rw[hv]at hc;have:=X.cell_lt hc;show 7<=_;omega
end Go.Proofs.YtjjcnhgpccancaaGreatDoor
namespace Go.Proofs.YtjjcnhgpccancaaGreatDoor
open Go.ChangeShapes Go.WideShapes Go.ChangeAt Go.RowKit
section
variable {H:Type}{enc:TypeId×Value->H}{w:World}{base:Nat}
set_option maxRecDepth 100000 in
theorem qqI {r:Reach}{b0:Nat}{t:TypeId}{v:Value}{d:DataW H}{ps:List MemPlace}(ht:Tryz.prog.underlying t=some (.slice 5))(hval:Value.okWide Tryz.prog w r b0 t v)(hd:DataW.Trod enc Tryz.prog w base (fun _=>true) true t v d ps)(h0:0<w.heap.size):
  ∃(D:Nat) (a:Option Addr) (n sc:Nat) (l:List Int),v= .slice a n sc/\X.Rd w a (X.u8s l)/\l.length=n/\n<=sc/\((n=0/\sc=0)\/ ∃o,a=some ⟨D,o,none⟩)/\X.byts l/\D<w.heap.size/\sc<=maxLen:=by
 obtain⟨i,k,m,rfl⟩:=okWide_slice ht hval;obtain⟨B,hf⟩:=hd;rcases open_ints ht Tryz.underlying5 (by kernel_rfl) hf with⟨h,_⟩|⟨a,c,f,zs,h,_,hl,hm,hz,_,s,y⟩
 ·have g:Value.slice i k m= .slice none 0 0:=List.head_eq_of_cons_eq h
  exact⟨0,none,0,0,[],g,X.Rd.nil _ _,rfl,Nat.le_refl _,.inl ⟨rfl,rfl⟩,(fun x hx=>by cases hx),h0,Nat.zero_le _⟩
 ·have g:Value.slice i k m= .slice (some a) c f:=List.head_eq_of_cons_eq h
  have hz':zs.length=f:=by simpa using hz
  rcases Nat.eq_zero_or_pos f with hc|hc
  ·subst hc
   obtain rfl:c=0:=by omega
   exact⟨0,some a,0,0,[],g,X.Rd.nil _ _,rfl,Nat.le_refl _,.inl ⟨rfl,rfl⟩,(fun x hx=>by cases hx),h0,Nat.zero_le _⟩
  ·obtain⟨b,p,rfl,q⟩:=ints_at s (by omega)
   refine⟨b,some ⟨b,p,none⟩,c,f,zs.take c,g,⟨(fun e=>by cases e),fun ad e j u hj=>?_⟩,by rw[List.length_take];omega,hl,.inr ⟨p,rfl⟩,fun x hx=>?_,?_,hm⟩
   ·obtain rfl:=Option.some.inj e
    rw[X.add_pl];have z:=(List.getElem?_eq_some_iff.1 hj).1;rw[List.length_map,List.length_take]at z;rw[q j (by omega)];rw[List.getElem?_map,List.getElem?_take,if_pos (by omega),List.getElem?_eq_getElem (by omega)]at hj;rw[<-hj,List.getD,List.getElem?_eq_getElem (by omega)];rfl
   ·have:=y x (List.mem_of_mem_take hx)
    simp only[Lit.wf,Bool.and_eq_true,decide_eq_true_eq]at this;have A:(0:Int)<=x/\x<=255:=this;exact A
   ·exact X.cell_lt (q 0 (by omega))
end
end Go.Proofs.YtjjcnhgpccancaaGreatDoor
