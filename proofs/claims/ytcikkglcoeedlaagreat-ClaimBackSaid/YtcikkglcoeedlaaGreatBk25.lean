/- Part 25. No condition. -/
import Derived.Test.YtcikkglcoeedlaaGreatBk18
import Derived.Test.YtcikkglcoeedlaaGreatBk19
import Derived.Test.YtcikkglcoeedlaaGreatBk20
import Derived.Test.YtcikkglcoeedlaaGreatBk23
import Derived.Test.YtcikkglcoeedlaaGreatBk24
set_option linter.unusedSimpArgs false
set_option linter.unusedVariables false
set_option maxRecDepth 100000
set_option maxHeartbeats 8000000
namespace Go.Proofs.YtcikkglcoeedlaaGreat
open _root_.Go.Proofs.Tryz
open Go.RowKit
variable{vl:Act}{vp:Code}{vk:Exit->AS->Prop}{s vr:GS}{a:Int}{vm ul:List (List D)}{vc:List (Nat×AV)}{vv:List (Nat×Nat)}{i:List AV}{v:List D}{f:List Nat}{H vz:List Ow}{n:Nat}{vi:Nat->Value}{P:Program}{d:TypeDesc}{t U:TypeId}{z u uk:Value}
theorem Ve(r:Rsl)(X:RsW r):Wr 207 (AP (Ro r)) (Js r):=Wr.intro λb F=>by
 have V:Js r=Gi r.l++Ge r.q++DB Ge r.r 8:=rfl;rw[V]at F ⊢;simp only[Yaa]at F;have c:=RD r.l X.l b ZbD;have A:=Mq r.q X.q (b++Gi r.l) ZdL;refine BD func207 rfl (Ag func207 ZbI ZbI) rfl λv x a=>?_;rw[ntmps207];refine ZfJ ?_;rintro _ _ ⟨rfl,rfl⟩;refine Kr ?_;refine ZfK ?_;rintro _ _ ⟨rfl,rfl⟩;refine ZfO ?_;refine AC (λu d=>∃k,k<=8/\u=8-k/\d=⟨[(0,.ptr 0 0),(15,.d (AP (up8 r.r))),(16,.d (ex (.int .i64 (k:Nat))))],[.var 103 [.own 1],.row 5 1 (Da (b++Gi r.l++Ge r.q++DB (Ge) r.r k)),.pin [(x,.own 0)]]⟩) ?le ⟨0,by omega,rfl,rfl⟩ ?round
 case le=>exact Ac Zcg Zcs
 case round=>
  rintro u _ ⟨k,C,rfl,rfl⟩;by_cases Q:k<8
  .have C:=Gl (Ge) r.r Q
   have I:=Mq (r.r k) (X.r k Q) (b++Gi r.l++Ge r.q++DB (Ge) r.r k) ZbL;refine Go ?_;refine Wq (Gn (ao rfl) (ao rfl) (Aa rfl) (Aa rfl) rfl Q (A1n Q)) ?_;refine ZgU ?_;exact Zim
  .obtain rfl:k=8:=by omega
   refine Go ?_
   first | refine Bt RetsA.none rfl ?_ rfl | refine AW RetsA.none rfl ?_ rfl
   exact⟨rfl,by rw[Yaf,Yaf,Yaf];rfl⟩
theorem A29(k:Cor)(h:CoW k):Wr 53 (AP (Eb k)) (FS k):=Wr.intro λb F=>by
 simp only[FS,Yaa]at F;have c:=FN k.n h.n (b) ZbL;have A:=JG k.e h.e (b++Bo k.n) ZbL;have B:=JG k.f h.f (b++Bo k.n++Bf k.e) ZbL;refine BD func53 rfl (Ag func53 ZbI ZbI) rfl λv x a=>?_;rw[ntmps53];refine ZfJ ?_;rintro _ _ ⟨rfl,rfl⟩;refine Kr ?_;refine Bj (σ':=⟨[(0,.ptr 0 0),(3,.ptr 3 0)],[.var 103 [.own 1],.row 5 1 (Da (b++Bo k.n)),.pin [(x,.own 0)],.var 26 ((Eb k).map .d)]⟩) ?_ ?_
 .exact Zki
 refine ZfK ?_;rintro _ _ ⟨rfl,rfl⟩;refine Kr ?_;refine Bj (σ':=⟨[(0,.ptr 0 0),(3,.ptr 3 0)],[.var 103 [.own 1],.row 5 1 (Da (b++Bo k.n++Bf k.e)),.pin [(x,.own 0)],.var 26 ((Eb k).map .d)]⟩) ?_ ?_
 .exact Zki
 refine Zgk ?_;rintro _ _ ⟨rfl,rfl⟩;refine Kr ?_;refine Bj (σ':=⟨[(0,.ptr 0 0),(3,.ptr 3 0)],[.var 103 [.own 1],.row 5 1 (Da (b++Bo k.n++Bf k.e++Bf k.f)),.pin [(x,.own 0)],.var 26 ((Eb k).map .d)]⟩) ?_ ?_
 .exact Zki
 apply AWl.nil
 first | refine Bt RetsA.none rfl ?_ rfl | refine AW RetsA.none rfl ?_ rfl
 exact⟨rfl,by simp only[FS,Yaf];rfl⟩
theorem A5J(c:Clm)(h:ClW c):Wr 111 (AP (EE c)) (Ii c):=Wr.intro λb F=>by
 simp only[Ii,Yaa]at F;have C:=FN c.kind h.kind (b) ZbL;have A:=Qr c.p h.p (b++Bo c.kind) ZbL;have B:=FN c.n h.n (b++Bo c.kind++CB c.p) ZbL;have L:=FN c.d h.d (b++Bo c.kind++CB c.p++Bo c.n) ZbL;have S:=FN c.r h.r (b++Bo c.kind++CB c.p++Bo c.n++Bo c.d) ZbL;have n:=RA c.o h.o (b++Bo c.kind++CB c.p++Bo c.n++Bo c.d++Bo c.r) ZbL;have E:=JG c.l h.l (b++Bo c.kind++CB c.p++Bo c.n++Bo c.d++Bo c.r++Cs c.o) ZbL;have g:=AaT c.s h.s (b++Bo c.kind++CB c.p++Bo c.n++Bo c.d++Bo c.r++Cs c.o++Bf c.l) ZbL;have y:=YF c.b h.b (b++Bo c.kind++CB c.p++Bo c.n++Bo c.d++Bo c.r++Cs c.o++Bf c.l++Br Bo c.s) ZbL;refine BD func111 rfl (Ag func111 ZbI ZbI) rfl λv x a=>?_;rw[ntmps111];refine Go ?_;refine AU [0,1] [] [] (C) Zbz rfl rfl ZbC ZbA ZbH Zby ZbE trivial rfl ?_;rintro _ _ ⟨rfl,rfl⟩;refine Kr ?_;refine Bj (σ':=⟨[(0,.ptr 0 0),(3,.ptr 3 0)],[.var 103 [.own 1],.row 5 1 (Da (b++Bo c.kind)),.pin [(x,.own 0)],.var 34 ((EE c).map .d)]⟩) ?_ ?_
 .exact Zki
 refine ZfK ?_;rintro _ _ ⟨rfl,rfl⟩;refine Kr ?_;refine Bj (σ':=⟨[(0,.ptr 0 0),(3,.ptr 3 0)],[.var 103 [.own 1],.row 5 1 (Da (b++Bo c.kind++CB c.p)),.pin [(x,.own 0)],.var 34 ((EE c).map .d)]⟩) ?_ ?_
 .exact Zki
 refine Zgk ?_;rintro _ _ ⟨rfl,rfl⟩;refine Kr ?_;refine Bj (σ':=⟨[(0,.ptr 0 0),(3,.ptr 3 0)],[.var 103 [.own 1],.row 5 1 (Da (b++Bo c.kind++CB c.p++Bo c.n)),.pin [(x,.own 0)],.var 34 ((EE c).map .d)]⟩) ?_ ?_
 .exact Zki
 refine Go ?_;refine AU [0,1] [] [] (L) Zbz rfl rfl ZbC ZbA ZbH Zby ZbE trivial rfl ?_;rintro _ _ ⟨rfl,rfl⟩;refine Kr ?_;refine Bj (σ':=⟨[(0,.ptr 0 0),(3,.ptr 3 0)],[.var 103 [.own 1],.row 5 1 (Da (b++Bo c.kind++CB c.p++Bo c.n++Bo c.d)),.pin [(x,.own 0)],.var 34 ((EE c).map .d)]⟩) ?_ ?_
 .exact Zki
 refine Go ?_;refine AU [0,1] [] [] (S) Zbz rfl rfl ZbC ZbA ZbH Zby ZbE trivial rfl ?_;rintro _ _ ⟨rfl,rfl⟩;refine Kr ?_;refine Bj (σ':=⟨[(0,.ptr 0 0),(3,.ptr 3 0)],[.var 103 [.own 1],.row 5 1 (Da (b++Bo c.kind++CB c.p++Bo c.n++Bo c.d++Bo c.r)),.pin [(x,.own 0)],.var 34 ((EE c).map .d)]⟩) ?_ ?_
 .exact Zki
 refine Go ?_;refine AU [0,1] [] [] (n) Zbz rfl rfl ZbC ZbA ZbH Zby ZbE trivial rfl ?_;rintro _ _ ⟨rfl,rfl⟩;refine Kr ?_;refine Bj (σ':=⟨[(0,.ptr 0 0),(3,.ptr 3 0)],[.var 103 [.own 1],.row 5 1 (Da (b++Bo c.kind++CB c.p++Bo c.n++Bo c.d++Bo c.r++Cs c.o)),.pin [(x,.own 0)],.var 34 ((EE c).map .d)]⟩) ?_ ?_
 .exact Zki
 refine Go ?_;refine AU [0,1] [] [] (E) Zbz rfl rfl ZbC ZbA ZbH Zby ZbE trivial rfl ?_;rintro _ _ ⟨rfl,rfl⟩;refine Kr ?_;refine Bj (σ':=⟨[(0,.ptr 0 0),(3,.ptr 3 0)],[.var 103 [.own 1],.row 5 1 (Da (b++Bo c.kind++CB c.p++Bo c.n++Bo c.d++Bo c.r++Cs c.o++Bf c.l)),.pin [(x,.own 0)],.var 34 ((EE c).map .d)]⟩) ?_ ?_
 .exact Zki
 refine Zgw ?_;refine AU [0,1] [] [] (g) Zbz rfl rfl ZbC ZbA ZbH Zby ZbE trivial rfl ?_;rintro _ _ ⟨rfl,rfl⟩;refine Kr ?_;refine Bj (σ':=⟨[(0,.ptr 0 0),(3,.ptr 3 0)],[.var 103 [.own 1],.row 5 1 (Da (b++Bo c.kind++CB c.p++Bo c.n++Bo c.d++Bo c.r++Cs c.o++Bf c.l++Br Bo c.s)),.pin [(x,.own 0)],.var 34 ((EE c).map .d)]⟩) ?_ ?_
 .exact Zki
 refine Go ?_;refine AU [0,1] [] [] (y) Zbz rfl rfl ZbC ZbA ZbH Zby ZbE trivial rfl ?_;rintro _ _ ⟨rfl,rfl⟩;refine Kr ?_;refine Bj (σ':=⟨[(0,.ptr 0 0),(3,.ptr 3 0)],[.var 103 [.own 1],.row 5 1 (Da (b++Bo c.kind++CB c.p++Bo c.n++Bo c.d++Bo c.r++Cs c.o++Bf c.l++Br Bo c.s++EQ c.b)),.pin [(x,.own 0)],.var 34 ((EE c).map .d)]⟩) ?_ ?_
 .exact Zki
 apply AWl.nil
 first | refine Bt RetsA.none rfl ?_ rfl | refine AW RetsA.none rfl ?_ rfl
 exact⟨rfl,by simp only[Ii,Yaf];rfl⟩
theorem A7R(e:Crt)(h:CrW e):Wr 112 (AP (DD e)) (JU e):=Wr.intro λb F=>by
 simp only[JU,Yaa]at F;have c:=FN e.n h.n (b) ZbL;have A:=JG e.cof h.cof (b++Bo e.n) ZbL;have B:=JG e.g h.g (b++Bo e.n++Bf e.cof) ZbL;have L:=RA e.o h.o (b++Bo e.n++Bf e.cof++Bf e.g) ZbL;have S:=Oy e.c h.c (b++Bo e.n++Bf e.cof++Bf e.g++Cs e.o) ZbL;have n:=Oy e.q h.q (b++Bo e.n++Bf e.cof++Bf e.g++Cs e.o++BJ e.c) ZbL;have C:=Oy e.s h.s (b++Bo e.n++Bf e.cof++Bf e.g++Cs e.o++BJ e.c++BJ e.q) ZbL;have g:=Ve e.r h.r (b++Bo e.n++Bf e.cof++Bf e.g++Cs e.o++BJ e.c++BJ e.q++BJ e.s) ZbL;have y:=AbX e.a h.a (b++Bo e.n++Bf e.cof++Bf e.g++Cs e.o++BJ e.c++BJ e.q++BJ e.s++Js e.r) ZbL;have Q:=AbV e.sq h.sq (b++Bo e.n++Bf e.cof++Bf e.g++Cs e.o++BJ e.c++BJ e.q++BJ e.s++Js e.r++Br GC e.a) ZbL;have W:=AbW e.x h.x (b++Bo e.n++Bf e.cof++Bf e.g++Cs e.o++BJ e.c++BJ e.q++BJ e.s++Js e.r++Br GC e.a++Br JD e.sq) ZbL;have s:=YF e.b h.b (b++Bo e.n++Bf e.cof++Bf e.g++Cs e.o++BJ e.c++BJ e.q++BJ e.s++Js e.r++Br GC e.a++Br JD e.sq++Br Pz e.x) ZbL;refine BD func112 rfl (Ag func112 ZbI ZbI) rfl λv x a=>?_;rw[ntmps112];refine ZfJ ?_;rintro _ _ ⟨rfl,rfl⟩;refine Kr ?_;refine Bj (σ':=⟨[(0,.ptr 0 0),(3,.ptr 3 0)],[.var 103 [.own 1],.row 5 1 (Da (b++Bo e.n)),.pin [(x,.own 0)],.var 46 ((DD e).map .d)]⟩) ?_ ?_
 .exact Zki
 refine ZfK ?_;rintro _ _ ⟨rfl,rfl⟩;refine Kr ?_;refine Bj (σ':=⟨[(0,.ptr 0 0),(3,.ptr 3 0)],[.var 103 [.own 1],.row 5 1 (Da (b++Bo e.n++Bf e.cof)),.pin [(x,.own 0)],.var 46 ((DD e).map .d)]⟩) ?_ ?_
 .exact Zki
 refine Zgk ?_;rintro _ _ ⟨rfl,rfl⟩;refine Kr ?_;refine Bj (σ':=⟨[(0,.ptr 0 0),(3,.ptr 3 0)],[.var 103 [.own 1],.row 5 1 (Da (b++Bo e.n++Bf e.cof++Bf e.g)),.pin [(x,.own 0)],.var 46 ((DD e).map .d)]⟩) ?_ ?_
 .exact Zki
 refine Go ?_;refine AU [0,1] [] [] (L) Zbz rfl rfl ZbC ZbA ZbH Zby ZbE trivial rfl ?_;rintro _ _ ⟨rfl,rfl⟩;refine Kr ?_;refine Bj (σ':=⟨[(0,.ptr 0 0),(3,.ptr 3 0)],[.var 103 [.own 1],.row 5 1 (Da (b++Bo e.n++Bf e.cof++Bf e.g++Cs e.o)),.pin [(x,.own 0)],.var 46 ((DD e).map .d)]⟩) ?_ ?_
 .exact Zki
 refine Go ?_;refine AU [0,1] [] [] (S) Zbz rfl rfl ZbC ZbA ZbH Zby ZbE trivial rfl ?_;rintro _ _ ⟨rfl,rfl⟩;refine Kr ?_;refine Bj (σ':=⟨[(0,.ptr 0 0),(3,.ptr 3 0)],[.var 103 [.own 1],.row 5 1 (Da (b++Bo e.n++Bf e.cof++Bf e.g++Cs e.o++BJ e.c)),.pin [(x,.own 0)],.var 46 ((DD e).map .d)]⟩) ?_ ?_
 .exact Zki
 refine Go ?_;refine AU [0,1] [] [] (n) Zbz rfl rfl ZbC ZbA ZbH Zby ZbE trivial rfl ?_;rintro _ _ ⟨rfl,rfl⟩;refine Kr ?_;refine Bj (σ':=⟨[(0,.ptr 0 0),(3,.ptr 3 0)],[.var 103 [.own 1],.row 5 1 (Da (b++Bo e.n++Bf e.cof++Bf e.g++Cs e.o++BJ e.c++BJ e.q)),.pin [(x,.own 0)],.var 46 ((DD e).map .d)]⟩) ?_ ?_
 .exact Zki
 refine Go ?_;refine AU [0,1] [] [] (C) Zbz rfl rfl ZbC ZbA ZbH Zby ZbE trivial rfl ?_;rintro _ _ ⟨rfl,rfl⟩;refine Kr ?_;refine Bj (σ':=⟨[(0,.ptr 0 0),(3,.ptr 3 0)],[.var 103 [.own 1],.row 5 1 (Da (b++Bo e.n++Bf e.cof++Bf e.g++Cs e.o++BJ e.c++BJ e.q++BJ e.s)),.pin [(x,.own 0)],.var 46 ((DD e).map .d)]⟩) ?_ ?_
 .exact Zki
 refine Go ?_;refine AU [0,1] [] [] (g) Zbz rfl rfl ZbC ZbA ZbH Zby ZbE trivial rfl ?_;rintro _ _ ⟨rfl,rfl⟩;refine Kr ?_;refine Bj (σ':=⟨[(0,.ptr 0 0),(3,.ptr 3 0)],[.var 103 [.own 1],.row 5 1 (Da (b++Bo e.n++Bf e.cof++Bf e.g++Cs e.o++BJ e.c++BJ e.q++BJ e.s++Js e.r)),.pin [(x,.own 0)],.var 46 ((DD e).map .d)]⟩) ?_ ?_
 .exact Zki
 refine Zgw ?_;refine AU [0,1] [] [] (y) Zbz rfl rfl ZbC ZbA ZbH Zby ZbE trivial rfl ?_;rintro _ _ ⟨rfl,rfl⟩;refine Kr ?_;refine Bj (σ':=⟨[(0,.ptr 0 0),(3,.ptr 3 0)],[.var 103 [.own 1],.row 5 1 (Da (b++Bo e.n++Bf e.cof++Bf e.g++Cs e.o++BJ e.c++BJ e.q++BJ e.s++Js e.r++Br GC e.a)),.pin [(x,.own 0)],.var 46 ((DD e).map .d)]⟩) ?_ ?_
 .exact Zki
 refine Zgw ?_;refine AU [0,1] [] [] (Q) Zbz rfl rfl ZbC ZbA ZbH Zby ZbE trivial rfl ?_;rintro _ _ ⟨rfl,rfl⟩;refine Kr ?_;refine Bj (σ':=⟨[(0,.ptr 0 0),(3,.ptr 3 0)],[.var 103 [.own 1],.row 5 1 (Da (b++Bo e.n++Bf e.cof++Bf e.g++Cs e.o++BJ e.c++BJ e.q++BJ e.s++Js e.r++Br GC e.a++Br JD e.sq)),.pin [(x,.own 0)],.var 46 ((DD e).map .d)]⟩) ?_ ?_
 .exact Zki
 refine Zgw ?_;refine AU [0,1] [] [] (W) Zbz rfl rfl ZbC ZbA ZbH Zby ZbE trivial rfl ?_;rintro _ _ ⟨rfl,rfl⟩;refine Kr ?_;refine Bj (σ':=⟨[(0,.ptr 0 0),(3,.ptr 3 0)],[.var 103 [.own 1],.row 5 1 (Da (b++Bo e.n++Bf e.cof++Bf e.g++Cs e.o++BJ e.c++BJ e.q++BJ e.s++Js e.r++Br GC e.a++Br JD e.sq++Br Pz e.x)),.pin [(x,.own 0)],.var 46 ((DD e).map .d)]⟩) ?_ ?_
 .exact Zki
 refine Go ?_;refine AU [0,1] [] [] (s) Zbz rfl rfl ZbC ZbA ZbH Zby ZbE trivial rfl ?_;rintro _ _ ⟨rfl,rfl⟩;refine Kr ?_;refine Bj (σ':=⟨[(0,.ptr 0 0),(3,.ptr 3 0)],[.var 103 [.own 1],.row 5 1 (Da (b++Bo e.n++Bf e.cof++Bf e.g++Cs e.o++BJ e.c++BJ e.q++BJ e.s++Js e.r++Br GC e.a++Br JD e.sq++Br Pz e.x++EQ e.b)),.pin [(x,.own 0)],.var 46 ((DD e).map .d)]⟩) ?_ ?_
 .exact Zki
 apply AWl.nil
 first | refine Bt RetsA.none rfl ?_ rfl | refine AW RetsA.none rfl ?_ rfl
 exact⟨rfl,by simp only[JU,Yaf];rfl⟩
theorem A25(f:Fct)(h:FW f):Wr 48 (AP (El f)) (ED f):=Wr.intro λb F=>by
 simp only[ED,Yaa]at F;have c:=A29 f.k h.k (b) ZbL;have A:=A5J f.c h.c (b++FS f.k) ZbL;have B:=A7R f.e h.e (b++FS f.k++Ii f.c) ZbL;refine BD func48 rfl (Ag func48 ZbI ZbI) rfl λv x a=>?_;rw[ntmps48];refine ZfJ ?_;rintro _ _ ⟨rfl,rfl⟩;refine Kr ?_;refine Bj (σ':=⟨[(0,.ptr 0 0),(3,.ptr 3 0)],[.var 103 [.own 1],.row 5 1 (Da (b++FS f.k)),.pin [(x,.own 0)],.var 48 ((El f).map .d)]⟩) ?_ ?_
 .exact Zki
 refine ZfK ?_;rintro _ _ ⟨rfl,rfl⟩;refine Kr ?_;refine Bj (σ':=⟨[(0,.ptr 0 0),(3,.ptr 3 0)],[.var 103 [.own 1],.row 5 1 (Da (b++FS f.k++Ii f.c)),.pin [(x,.own 0)],.var 48 ((El f).map .d)]⟩) ?_ ?_
 .exact Zki
 refine Zgk ?_;rintro _ _ ⟨rfl,rfl⟩;refine Kr ?_;refine Bj (σ':=⟨[(0,.ptr 0 0),(3,.ptr 3 0)],[.var 103 [.own 1],.row 5 1 (Da (b++FS f.k++Ii f.c++JU f.e)),.pin [(x,.own 0)],.var 48 ((El f).map .d)]⟩) ?_ ?_
 .exact Zki
 apply AWl.nil
 first | refine Bt RetsA.none rfl ?_ rfl | refine AW RetsA.none rfl ?_ rfl
 exact⟨rfl,by simp only[ED,Yaf];rfl⟩
structure WC(g:Nat)(s s':GS):Prop where
 S:s'.S=s.S
 blk:∀b,b≠g->s'.w.heap[b]? = s.w.heap[b]?
 ty:∃cs fz,s.w.heap[g]? = some (.cells cs 335 fz)/\∀(k:Nat) u,cs[k]? = some u->∃x,u=.int .u32 x
def NW(x:D):Prop:=∀(g:Nat) (s j:GS) (v:Value),WC g s j->x.rel s v->x.rel j v
theorem Aaq(u:Value):NW (ex u):=λ_ _ _ _ _ h=>h
theorem A7H(h:n<v.length):DK v n∈v:=by
 have:DK v n=v[n]:=by simp[DK,h]
 rw[this];exact Ybt h
theorem Lies.nwB{b o:Nat}(I:WC n s vr)(h:Lies s b o t [ex (.int .u8 a)]):Lies vr b o t [ex (.int .u8 a)]:=by
 obtain⟨G,M,A,B⟩:=h;obtain⟨L,u,S,J,K⟩:=B 0 ZbS;have K:u=_:=K
 have F:b≠n:=λe=>by
  subst e;obtain⟨N,R,g,y⟩:=I.ty;rw[A]at g;have:=Yag g;simp only[Obj.cells.injEq]at this;obtain⟨x,E⟩:=y (o+0) u (by rw[<-this.1];exact S);rw[K]at E;cases E
 refine⟨G,M,(I.blk b F).trans A,λk C=>?_⟩;obtain rfl:k=0:=by simp at C;omega
 exact⟨by rw[I.S];exact L,u,S,J,K⟩
theorem AbI{b:List Nat}:NW (GX t b):=λg s j v I ⟨A, c, B, C, L, S⟩=>⟨A, c, B, C, L, λF=>by
 obtain⟨y,o,n,J⟩:=S F;refine⟨y,o,n,λk E=>⟨(J k E).1,?_⟩⟩
 obtain⟨z,G⟩:∃z:Nat,(Da b).getD k []=[ex (.int .u8 (z:Nat))]:=by
  have M:k<b.length:=by rw[Db]at E;exact E
  refine⟨b[k],?_⟩;rw[Yab,Yac E];simp[Da]
 have K:=(J k E).2;rw[G]at K ⊢;exact K.nwB I⟩
theorem Aap:NW (Fg t [ex (.int .u8 a)]):=λg s j v I ⟨b,o,A,B⟩=>⟨b,o,A,B.nwB I⟩
def wL(l:List Nat):List Value:=l.map λw=>.int .u32 (w:Nat)
structure WRel(base:Nat)(l:List Nat)(s:GS)(v:Value):Prop where
 own:s.w.ownsRow base 335 1 v l.length (wL l)
 sm:BM l
 set:∀b,DP v=some b->∀k,s.S b k
 al:∀b cs fz,DP v=some b->s.w.heap[b]? = some (.cells cs 335 fz)->∀(k:Nat) u,cs[k]? = some u->∃x,u=.int .u32 x
theorem WRel.cases{base:Nat}{l:List Nat}{v:Value}(h:WRel base l s v):(v=.slice none 0 0/\l=[])\/∃g cap d,v=.slice (some ⟨g,0,none⟩) l.length cap/\base<=g/\s.w.heap[g]? = some (.cells d 335 (0,0))/\l.length<=cap/\cap<=maxLen/\d.size=cap/\d.toList.take l.length=wL l:=by
 rcases h.own.2 with⟨Z,A⟩ | ⟨g,cap,d,Z,A,e3,e4,e5,e6,e7⟩
 .exact .inl ⟨Z,YaF A⟩
 .exact .inr ⟨g,cap,d,Z,A,e3,e4,e5,by omega,by rwa [YbB]at e7⟩
theorem WRel.lt{l:List Nat}{v:Value}(h:WRel n l s v){b:Nat}(F:DP v=some b):b<s.w.heap.size/\n<=b/\∃A S,s.w.heap[b]? = some (.cells A 335 S):=by
 rcases h.cases with⟨Z,_⟩ | ⟨g,cap,cur,Z,e2,e3,_⟩
 .rw [Z]at F;cases F
 .rw [Z]at F;cases F;exact⟨Bw e3,e2,_,_,e3⟩
theorem WRel.keep{l:List Nat}{v:Value}(h:WRel n l s v)(F:∀b,DP v=some b->vr.w.heap[b]? = s.w.heap[b]? /\ ∀k,vr.S b k↔s.S b k):WRel n l vr v:=by
 refine⟨⟨h.own.1,?_⟩,h.sm,λb A k=>((F b A).2 k).2 (h.set b A k),λb C S A B=>h.al b C S A ((F b A).1.symm.trans B)⟩;rcases h.own.2 with A | ⟨g,cap,cur,e1,e2,e3,e4⟩
 .exact .inl A
 .exact Zkj
def WOV(base:Nat)(v:Value)(l:List Nat):OD:=⟨λs _=>WRel base l s v,λ_ _ b=>DP v=some b,λh F=>(WRel.lt h F).1,λh _ F=>⟨WRel.keep h F,λ_ h=>h⟩⟩
def WOD(base:Nat)(l:List Nat):OD:=⟨λs v=>WRel base l s v,λ_ v b=>DP v=some b,λh F=>(WRel.lt h F).1,λh _ F=>⟨WRel.keep h F,λ_ h=>h⟩⟩
theorem WRel.wD{l:List Nat}{v:Value}(h:WRel n l s v):(Go.Proofs.YtcikkglcoeedlaaGreat.wD l).rel s v:=by
 refine⟨?_,h.sm⟩;rcases h.cases with⟨Z,B⟩ | ⟨g,cap,cur,Z,B,e3,e4,e5,e6,e7⟩
 .subst B;rw[Z];exact slD.nil _ _ _
 .refine ⟨_, cap, by rw [Yar]; exact Z, by rw [Yar]; exact e4, by simpa [maxLen] using e5, λc=>⟨g, 0, rfl, λk C=>?_⟩⟩
  rw[Yar]at C;have e:(l.map λx=>[ex (.int .u32 (x:Nat))]).getD k []=[ex (.int .u32 (l[k]:Nat))]:=by simp[C]
  rw[e];refine⟨rfl,cur,(0,0),e3,λj a=>?_⟩;obtain rfl:j=0:=by simp at a;omega
  refine⟨h.set g (by rw[Z];rfl) _,.int .u32 (l[k]:Nat),?_,rfl,rfl⟩;have A:(cur.toList.take l.length)[k]? = (wL l)[k]?:=by rw[e7]
  rw[YaJ,Yan C]at A;rw[YaH,YbB,Ybd,<-Ycr,A];simp[wL,C]
theorem WOV.nil(base:Nat)(s:GS):WRel base [] s (.slice none 0 0):=⟨⟨rfl,.inl ⟨rfl,rfl⟩⟩,(λx E=>by cases E),λb F=>(by cases F),λb h S F=>by cases F⟩
theorem A2q{s0:An}(xb:GS.LeX s0.mine s0.g s)(f:s.Ok){t ty bytes base:Nat}(M:P.underlying t=some (.slice 335))(w:Tab P 335 d 1 bytes z)(xq:z=.int .u32 0){l:List Nat}(v:WRel base l s u)(xA:s0.g.w.heap.size<=base)(xi:base<=s0.g.w.heap.size)
  (b o c x:Nat) (E:x<4294967296) (xm:s.w.cell? ⟨b,o,none⟩=some (.int .u32 (x:Nat))) (xj:(l.length+1)*bytes<=140737488355328) (xp:l.length+1<=4611686018427387904) :
  ∃(r:Value) (I:GS),(Builtin.append_ #[t,t] ty #[u,.slice (some ⟨b,o,none⟩) 1 c]).run P s.w=.ok r I.w/\GS.LeX s0.mine s0.g I/\I.Ok/\(GS.Le s I\/∃g,DP u=some g/\WC g s I)/\WRel base (l++[x]) I r/\(∀b,DP r=some b->DP u=some b\/s.w.heap.size<=b):=by
 obtain⟨i,K,N,xt,xv⟩:=w.info;subst xv;have xs:z.cells.size=1:=by rw[xq];rfl
 have xJ:∀(m k:Nat) B,(Builtin.zeroCells z.cells m)[k]? = some B->∃x,B=.int .u32 x:=λm k B p=>by
  have p:=Array.mem_of_getElem? p;rw[xq,Builtin.zeroCells]at p;simp[Value.cells]at p;exact⟨0,by grind⟩
 have xN:∀(k:Nat) B,(wL l)[k]? = some B->∃x,B=.int .u32 x:=λk B p=>by
  obtain⟨y,_,O⟩:=YaA.1 (YaE p);exact⟨_,O.symm⟩
 have xM:∀(k:Nat) B,([.int .u32 ((x:Nat):Int)]:List Value)[k]? = some B->∃x,B=.int .u32 x:=λk B p=>⟨_,YaC.1 (YaE p)⟩;obtain⟨xe,xo⟩:∃xe:List Value,xe=[.int .u32 (x:Nat)]:=⟨_,rfl⟩;have J:xe.length=1*i.size:=by rw[xo,xt];rfl
 have xB:∀j B,xe[j]? = some B->s.w.cell? ((⟨b,o,none⟩:Addr).add j)=some B:=λj B a=>by
  rw[xo]at a
  match j,a with
  |0,a=>cases a;exact xm
  |j+1,a=>cases a
 have A:∀B∈xe,B.oneCell'=true:=λB p=>by rw[xo]at p;rw[YaC.1 p];rfl
 have xI:wL (l++[x])=wL l++xe:=by rw[xo,wL,Ycg];rfl
 have T:(wL l).length=l.length:=by simp[wL]
 have xw:(l++[x]).length=l.length+1:=by simp
 have xE:BM (l++[x]):=λy O=>by
  rcases YbP.1 O with h | h
  .exact v.sm y h
  .rw [YaC.1 h];exact E
 have xD:s0.g.w.heap.size<=s.w.heap.size:=xb.size;have xz:l.length+1<=maxLen:=ZiS
 have xF:∀xu,xu<l.length+1->base<=s.w.heap.size->∃I:GS,I.w=s.w.drew.alloc (.cells ((wL l).toArray++xe.toArray++Builtin.zeroCells z.cells (grownCap s.w (l.length+1) xu 335-(l.length+1))) 335)/\GS.LeX s0.mine s0.g I/\I.Ok/\GS.Le s I/\WRel base (l++[x]) I (.slice (some ⟨s.w.heap.size,0,none⟩) (l.length+1) (grownCap s.w (l.length+1) xu 335)):=by
  intro xu q xg;obtain⟨arr,xr⟩:∃arr,arr=(wL l).toArray++xe.toArray++Builtin.zeroCells z.cells (grownCap s.w (l.length+1) xu 335-(l.length+1)):=⟨_,rfl⟩;rw[<-xr];have xk:=grownCap_ge s.w (l.length+1) xu 335;have xx:grownCap s.w (l.length+1) xu 335<=maxLen:=grownCap_le_maxLen s.w (l.length+1) xu 335 xz;have V:Ext s.w (s.w.drew.alloc (.cells arr 335)):=(Ext.refl _).drew.alloc _;have xG:(s.w.drew.alloc (.cells arr 335)).heap[s.w.heap.size]? = some (.cells arr 335 (0,0)):=heap_alloc_new s.w.drew _;have U:(s.w.drew.alloc (.cells arr 335)).heap.size=s.w.heap.size+1:=Yeb ..;have xa:=FI (s:=s) V;refine⟨s.grown (s.w.drew.alloc (.cells arr 335)),rfl,xb.trans xa,xa.ok f,xa,⟨⟨by rw[xw];simp[wL],.inr ⟨s.w.heap.size,_,arr,by rw[xw],xg,xG,by rw[xw];exact xk,xx,?_,?_⟩⟩,xE,λb F k=>?_,λb G fz F A k B p=>?_⟩⟩
  .rw [xr]
   simp only[Array.size_append,Ydb,size_zeroCells,xs,T,J,xt];omega
  .rw [xr,xI]
   simp only[Array.toList_append];have:(wL l++xe).length=(l++[x]).length*1:=by rw[Yaa,T,J,xt,xw];omega
   rw[<-this];exact Yen
  .have xc:some s.w.heap.size=some b:=F
   have xc:=Yag xc;subst xc;exact .inr ⟨Yah _,by rw[U];omega⟩
  .have xc:some s.w.heap.size=some b:=F
   have xc:=Yag xc;subst xc;have A:(s.w.drew.alloc (.cells arr 335)).heap[s.w.heap.size]? = _:=A;rw[xG]at A;have:=Yag A;simp only[Obj.cells.injEq]at this;rw[<-this.1,xr]at p;rw[Array.getElem?_append]at p;split at p
   .rw [Array.getElem?_append]at p
    split at p
    .rw [YbE]at p
     exact xN _ B p
    .rw [YbE,xo]at p
     exact xM _ B p
   .exact xJ _ _ B p
 have xg:base<=s.w.heap.size:=by omega
 rcases v.cases with⟨rfl,rfl⟩ | ⟨g,cap,xn,rfl,hbg,hg,hnc,xx,hcs,htake⟩
 .have X:=run_append_nil (P:=P) s.w t ty 335 i z M K N ⟨b, o, none⟩ 1 c xe J xB ZbD ZbD (by have F:=xj; simp only [Ybv, YaH, YcA] at F ⊢; omega)
  obtain⟨I,Z,Q,e3,e4,e5⟩:=xF 0 ZbD xg;simp only[Ybv,YaH,YcH,Array.empty_append,wL,Ycs]at Z e5 X ⊢;exact Zhs
 .have xK:=v.al g xn (0,0) rfl hg
  by_cases xC:l.length+1<=cap
  .have xH:l.length*i.size+xe.length<=xn.size:=by rw [J, hcs, xt];omega
   have X:=run_append_room (P:=P) s.w t ty 335 i M K g l.length cap xn hg ⟨b,o,none⟩ 1 c xe J xB A xC xH;obtain⟨W,hW⟩:∃W,W=s.w.setRow g (xn.toList.take (l.length*i.size)++xe++xn.toList.drop (l.length*i.size+xe.length)).toArray:=⟨_,rfl⟩;rw[<-hW]at X;have xl:∀b,b≠g->W.heap[b]? = s.w.heap[b]?:=λb F=>by rw[hW];exact Zjx
   have xG:W.heap[g]? = some (.cells (xn.toList.take (l.length*i.size)++xe++xn.toList.drop (l.length*i.size+xe.length)).toArray 335 (0,0)):=by rw[hW];exact setRow_heap s.w g xn _ _ _ hg
   have U:W.heap.size=s.w.heap.size:=by rw[hW];simp[World.setRow]
   have xf : GS.Ok ⟨s.S, s.tag, W⟩ := ⟨fun b k F => by show b < W.heap.size; rw [U]; exact f.lt b k F, fun b k ⟨G, fz, F⟩ => by
    have F:W.heap[b]? = _:=F;by_cases e:b=g
    .subst e;exact v.set b rfl k
    .exact f.safe b k ⟨G,fz,(xl b e).symm.trans F⟩⟩
   refine⟨_,⟨s.S,s.tag,W⟩,X,⟨by show W.os=_;rw[hW];exact xb.os,by show W.tape=_;rw[hW];exact xb.tape,by show W.output=_;rw[hW];exact xb.output,λk C R=>(xl k ZbD).trans (xb.block k C R),⟨by show _<=W.heap.size;omega,xb.chg.up,λY G H fz F=>?_⟩,xb.old,xb.tag,λ_=>xf⟩,xf,.inr ⟨g,rfl,rfl,xl,_,_,hg,xK⟩,⟨⟨by rw[xw];simp[wL],.inr ⟨g,cap,_,by rw[xw],hbg,xG,by rw[xw];exact xC,xx,?_,?_⟩⟩,xE,λb F k=>?_,λb G fz F A k B p=>?_⟩,λb F=>.inl F⟩
   .obtain ⟨xd,xy,Z,Q⟩:=xb.chg.cell Y G H fz F
    have:=Bw F;exact⟨xd,xy,(xl Y ZbD).trans Z,Q⟩
   .simp only[Ydb,Yaa,YaO,YbQ,Yed]
    rw[xt]at xH ⊢;omega
   .have L:(l++[x]).length*1=(xn.toList.take (l.length*i.size)++xe).length:=by
     have S:xn.toList.length=xn.size:=Yed;have n:(xn.toList.take (l.length*i.size)++xe).length=l.length+1:=by rw[Yaa,YaO,J,xt];omega
     rw[n,xw,YbB]
    rw[L];show List.take _ (xn.toList.take (l.length*i.size)++xe++_)=_;rw[Yen,xI,xt,YbB,htake]
   .have xc:some g=some b:=F
    have xc:=Yag xc;subst xc;exact v.set g rfl k
   .have xc:some g=some b:=F
    have xc:=Yag xc;subst xc;have A:W.heap[g]? = _:=A;rw[xG]at A;have:=Yag A;simp only[Obj.cells.injEq]at this;rw[<-this.1,YbE]at p;have p:=YaE p;rw[YbP,YbP]at p;rcases p with(p | p) | p
    .obtain ⟨k',xh⟩:=YbK (Ybr p)
     exact Zkk
    .obtain ⟨k',xh⟩:=YbK p
     rw[xo]at xh;exact xM k' B xh
    .obtain ⟨k',xh⟩:=YbK (Ych p)
     exact Zkk
  .have xL:∀j B,(wL l)[j]? = some B->s.w.cell? ((⟨g,0,none⟩:Addr).add j)=some B:=v.own.cells (g:=g) rfl
   have X:=run_append_grow (P:=P) s.w t ty 335 i z M K N ⟨g,0,none⟩ l.length cap (wL l) (by rw[T,xt,YbB]) xL ⟨b,o,none⟩ 1 c xe J xB ZbD ZbD (growslice_fits ZbD xj);obtain⟨I,Z,Q,e3,e4,e5⟩:=xF cap ZbD xg;exact Zhs
def AV.nw(id:Nat):AV->Prop
 |.d x=>NW x
 |.ptr i _=>i≠id
 |.own i=>i≠id
 |.fn _ Y=>id∉Y
def Ow.nw(id:Nat):Ow->Prop
 |.dead=>True
 |.var _ cells=>∀I∈cells,I.nw id
 |.row _ _ C=>∀r∈C,∀d∈r,NW d
 |.obj _=>False
 |.pin l=>∀p∈l,p.2.nw id
theorem StI.words{s0:An}{id base:Nat}{l w:List Nat}(h:StI s0 n ⟨vc,H⟩ vl s vi)(xe:H[id]? = some (.obj (WOV base z l)))(hF:∀p∈vc,p.2.nw id)(hM:∀i o,i≠id->H[i]? = some o->o.nw id)(q1:GS.LeX s0.mine s0.g vr)(q2:vr.Ok)(q3:GS.Le s vr\/∃g,DP z=some g/\WC g s vr)(q4:WRel base w vr u)(q5:∀b,DP u=some b->DP z=some b\/s.w.heap.size<=b) :
  StI s0 n ⟨vc,H.set id (.obj (WOD base w))⟩ vl vr (λi=>if i=id then u else vi i):=by
 have P:(H.set id (.obj (WOD base w))).length=H.length:=by simp
 have xj:id<H.length:=Cy xe;have xp:WRel base l s z:=h.hp id _ xe
 have hA:∀c G,c.nw id->AVr H.length vi s c G->AVr H.length (λi=>if i=id then u else vi i) vr c G:=λc G J m=>by
  cases c with
  |d x=>exact q3.elim (λk=>x.st m k.chg) λ⟨g,_,k⟩=>J g s vr G k m
  |ptr i off=>
   have J:i≠id:=J;obtain⟨A,b,B,L⟩:=m;exact⟨A,b,(show(if i=id then u else vi i)=_ by rw[Yai J];exact B),L⟩
  |own i=>
   have J:i≠id:=J;exact⟨m.1,(show G=(if i=id then u else vi i)by rw[Yai J];exact m.2)⟩
  |fn f xc=>
   have J:id∉xc:=J;exact⟨m.1,by rw[m.2,YaX λi K=>(Yai λe=>J (by rw[<-e];exact K):(if i=id then u else vi i)=vi i)]⟩
 have hB:∀b,b<s.w.heap.size->(∀N fz,s.w.heap[b]? ≠ some (.cells N 335 fz))->vr.w.heap[b]? = s.w.heap[b]? /\ ∀k,vr.S b k↔s.S b k:=λb F xa=>by
  rcases q3 with k | ⟨g,hg,k⟩
  .exact ⟨k.ext.block F,λj=>⟨k.old b j F,k.up b j⟩⟩
  .obtain ⟨N,fz,e,_⟩:=k.ty
   have xr:b≠g:=λe'=>xa N fz (by rw[e'];exact e);exact⟨k.blk b xr,λj=>by rw[k.S]⟩
 have hO:∀i o,i≠id->H[i]? = some o->OwR 0 H.length (λi=>if i=id then u else vi i) vr i o:=λi o K q=>by
  have J:=hM i o K q;have X:=h.hp i o q
  cases o with
  |dead=>trivial
  |var T cells=>
   obtain⟨b,N,A,B,L,S,R,W,r⟩:=X
   obtain⟨Z,V⟩:=hB b (Bw L) λxd xq e=>by
    rw[L]at e;have:=Yag e;simp only[Obj.cells.injEq]at this;exact R this.2.1
   refine⟨b,N,(show(if i=id then u else vi i)=_ by rw[Yai K];exact A),B,Z.trans L,S,R,λk C=>W k ((V k).1 C),λk c C=>?_⟩;obtain⟨G,U,h9,xb⟩:=r k c C;exact⟨G,U,h9,hA c G (J c (YaE C)) xb⟩
  |row T Q Y=>
   obtain⟨v,⟨A,B⟩,L,S,R,W⟩:=X
   have xk:∀b,DP (vi i)=some b->vr.w.heap[b]? = s.w.heap[b]? /\ ∀k,vr.S b k↔s.S b k:=λb F=>by
    rcases B with⟨Z,_⟩ | ⟨g,cap,cur,Z,V,e3,e4⟩
    .rw [Z]at F;cases F
    .rw [Z]at F
     cases F
     exact hB g (Bw e3) λxd xq e=>by
      rw[e3]at e;have:=Yag e;simp only[Obj.cells.injEq]at this;exact L this.2.1
   refine⟨v,⟨A,?_⟩,L,S,λb F k=>?_,λk C=>⟨(W k C).1,λj a=>?_⟩⟩
   .have xt:(λi=>if i=id then u else vi i) i=vi i:=Yai K
    rw[xt];rcases B with B | ⟨g,cap,cur,Z,V,e3,e4⟩
    .exact .inl B
    .exact .inr ⟨g,cap,cur,Z,V,(xk g (by rw[Z];rfl)).1.trans e3,e4⟩
   .have F:DP (if i=id then u else vi i)=some b:=F
    rw[Yai K]at F;exact((xk b F).2 k).trans (R b F k)
   .obtain ⟨G,U,h9,xb⟩:=(W k C).2 j a
    have xo:(Y.getD k [])∈Y:=by
     exact Zhz
    have xi:j<(Y.getD k []).length:=by rw[(W k C).1];exact a
    exact⟨G,U,h9,hA (.d (DK (Y.getD k []) j)) G (J _ xo _ (A7H xi)) xb⟩
  |obj O=>exact J.elim
  |pin l=>exact λp H=>hA p.2 p.1 (J p H) (X p H)
 have xg:∀i o,(H.set id (.obj (WOD base w)))[i]? = some o->(i=id/\o=.obj (WOD base w))\/(i≠id/\H[i]? = some o):=λi o q=>by
  rw[YbZ]at q;split at q
  .rename_i e
   try rw[Yan ZbD]at q
   exact .inl ⟨e.symm,(Yag q).symm⟩
  .rename_i e
   exact .inr ⟨λe'=>e e'.symm,q⟩
 have xm:∀i o b,i≠id->H[i]? = some o->OwB vr (if i=id then u else vi i) o b->OwB s (vi i) o b:=λi o b K q F=>by
  rw[Yai K]at F
  cases o with
  |obj O=>exact(hM i _ K q).elim
  |_=>exact F
 refine⟨q1,q2,λt c M=>?_,h.sz,h.df,λi o q=>?_,λi j x y xf E I b xl xh=>?_,λi o b q F=>?_⟩
 .rw [show(⟨vc,H.set id (.obj (WOD base w))⟩:AS).hp.length=H.length from P]
  exact hA c _ (hF (t,c) (Fe M)) (h.fr t c M)
 .rw [show(⟨vc,H.set id (.obj (WOD base w))⟩:AS).hp.length=H.length from P]
  rcases xg i o q with⟨rfl,rfl⟩ | ⟨K,q⟩
  .show WRel base w vr (if i=i then u else vi i)
   rw[Yan rfl];exact q4
  .exact hO i o K q
 .rcases xg i x E with⟨rfl,rfl⟩ | ⟨K,hx'⟩<;>rcases xg j y I with⟨rfl,rfl⟩ | ⟨a,hy'⟩
  .exact xf rfl
  .have xl:DP (if i=i then u else vi i)=some b:=xl
   rw[Yan rfl]at xl;have xn:=xm j y b a hy' xh;rcases q5 b xl with A | A
   .exact h.sep i j _ y xf xe hy' b A xn
   .have:=(h.hp j y hy').blk_lt0 xn
    omega
  .have xh:DP (if j=j then u else vi j)=some b:=xh
   rw[Yan rfl]at xh;have xn:=xm i x b K hx' xl;rcases q5 b xh with A | A
   .exact h.sep i j x _ xf hx' xe b xn A
   .have:=(h.hp i x hx').blk_lt0 xn
    omega
  .exact h.sep i j x y xf hx' hy' b (xm i x b K hx' xl) (xm j y b a hy' xh)
 .rcases xg i o q with⟨rfl,rfl⟩ | ⟨K,q⟩
  .have F:DP (if i=i then u else vi i)=some b:=F
   rw[Yan rfl]at F;rcases q5 b F with A | A
   .exact h.own i _ b xe A
   .exact .inr (Yat h.le.size A)
  .exact h.own i o b q (xm i o b K q F)
theorem A4e{s0:An}{o:Oper}{id base m bytes b0 x:Nat}{l:List Nat}{w a:Operand}(G:o.op=.call { callee:=.builtin .append,args:=#[w,a],argTypes:=#[t,t] })(h:StI s0 n ⟨vc,H⟩ vl s vi)(L:H[id]? = some (.obj (WOV base u l)))(hF:∀p∈vc,p.2.nw id)(I:∀i o,i≠id->H[i]? = some o->o.nw id)(xb:s0.g.w.heap.size<=base)(f:base<=s0.g.w.heap.size)(E:vl.eval w=u)(O:(slD U 1 [[ex (.int .u32 (x:Nat))]]).rel s (vl.eval a))(V:x<4294967296)(M:Tab P t (.slice 335) m b0 z)(k:Tab P 335 d 1 bytes uk)(r:uk=.int .u32 0)(Z:(l.length+1)*bytes<=140737488355328)(e:l.length+1<=4611686018427387904) :
  RegG.OpStep P o vl.eval s λB j=>∃F,StI s0 n ⟨vc,H.set id (.obj (WOD base (l++[x])))⟩ vl j F/\AVr H.length F j (.own id) B:=by
 obtain⟨A,c,C,g,y,Q⟩:=O;obtain⟨b,p,rfl,W⟩:=Q ZbS;obtain⟨_,J⟩:=W 0 ZbS;obtain⟨B,R,_,q⟩:=J.cell (k:=0) ZbS;have q:B=_:=q;subst q;obtain⟨Y,j,X,N,K,S,T,v⟩:=A2q (P:=P) (t:=t) (ty:=o.type) h.le h.ok M.und k r (h.hp id _ L) xb f b p c x V Zeu Z e
 have xa:(execOp vl.eval o).run P s.w=.ok (.value Y) j.w:=by
  simp only[execOp,G,resolve,invoke,builtin,Sem.run_bind,Sem.run_pure,Result.andThen_ok,YcJ,Ybf,Ycs,E,C];simp only[Yav,Ybv,YaH]at X ⊢;rw[X];rfl
 refine Ja xa j rfl ⟨_,h.words L hF I N K S T v,Cy L,(Yan rfl).symm⟩
def AllNw(id c:Nat)(R:List Nat):Nat->List AV->Prop
 |_,[]=>True
 |i,r::J=>(Nat.beq i c=true\/R.contains i=true\/r.nw id)/\AllNw id c R (i+1) J
theorem AllNw.nil{id c i:Nat}{R:List Nat}:AllNw id c R i []:=trivial
theorem AllNw.c{id c i:Nat}{R:List Nat}{r:AV}{J:List AV}(h:Nat.beq i c=true)(Y:AllNw id c R (i+1) J):AllNw id c R i (r::J):=⟨.inl h,Y⟩
theorem AllNw.l{id c i:Nat}{R:List Nat}{r:AV}{J:List AV}(h:R.contains i=true)(Y:AllNw id c R (i+1) J):AllNw id c R i (r::J):=⟨.inr (.inl h),Y⟩
theorem AllNw.x{id c i:Nat}{R:List Nat}{v:Value}{J:List AV}(Y:AllNw id c R (i+1) J):AllNw id c R i (.d (ex v)::J):=⟨.inr (.inr (Aaq v)),Y⟩
theorem AllNw.b{id c i:Nat}{R:List Nat}{T:TypeId}{l:List Nat}{J:List AV}(Y:AllNw id c R (i+1) J):AllNw id c R i (.d (GX T l)::J):=⟨.inr (.inr AbI),Y⟩
theorem AllNw.e{id c i:Nat}{R:List Nat}{T:TypeId}{z:Int}{J:List AV}(Y:AllNw id c R (i+1) J):AllNw id c R i (.d (Fg T [ex (.int .u8 z)])::J):=⟨.inr (.inr Aap),Y⟩
theorem AllNw.p{id c i j off:Nat}{R:List Nat}{J:List AV}(h:Nat.beq j id=false)(Y:AllNw id c R (i+1) J):AllNw id c R i (.ptr j off::J):=⟨.inr (.inr (YaI h)),Y⟩
theorem AllNw.o{id c i j:Nat}{R:List Nat}{J:List AV}(h:Nat.beq j id=false)(Y:AllNw id c R (i+1) J):AllNw id c R i (.own j::J):=⟨.inr (.inr (YaI h)),Y⟩
theorem AllNw.get{id c:Nat}{R:List Nat}:∀{C:List AV} {j:Nat},AllNw id c R j C->∀(i:Nat) r,C[i]? = some r->j+i≠c->j+i∉R->r.nw id
 |[],_,_,_,_,h,_,_=>by cases h
 |x::C,j,⟨A,_⟩,0,r,h,I,J=>by
  cases h;rcases A with A | A | A
  .exact absurd (Yao A) I
  .exact absurd Zdn J
  .exact A
 |x::C,j,⟨_,B⟩,i+1,r,h,I,J=>AllNw.get B i r Zdi ZeZ (by rw[YbM,YcX 1];exact J)
def MemNw(id:Nat):Nat->List Ow->Prop
 |_,[]=>True
 |i,o::G=>(Nat.beq i id=true\/o.nw id)/\MemNw id (i+1) G
theorem MemNw.nil{id i:Nat}:MemNw id i []:=trivial
theorem A8e{id i:Nat}{o:Ow}(h:Nat.beq i id=true)(Y:MemNw id (i+1) H):MemNw id i (o::H):=⟨.inl h,Y⟩
theorem A8d{id A T:Nat}(h:AllNw id i.length [] 0 i)(Y:MemNw id (A+1) H):MemNw id A (.var T i::H):=⟨.inr λI B=>by
 obtain⟨k,C⟩:=YbK B;have:=(Yae.1 C).1;exact h.get k I C ZbD ZbS,Y⟩
theorem MemNw.p{id i:Nat}{l:List (Value×AV)}(h:AllNw id l.length [] 0 (l.map (·.2)))(Y:MemNw id (i+1) H):MemNw id i (.pin l::H):=⟨.inr λp z=>by
 obtain⟨k,C⟩:=YbK z;have:=(Yae.1 C).1;exact h.get k p.2 (by rw[Yax,C];rfl) ZbD ZbS,Y⟩
theorem MemNw.get{id:Nat}:∀{G:List Ow} {j:Nat},MemNw id j G->∀(i:Nat) o,G[i]? = some o->j+i≠id->o.nw id
 |[],_,_,_,_,h,_=>by cases h
 |x::J,j,⟨A,_⟩,0,r,h,I=>by
  cases h;exact A.elim (λA=>absurd (Yao A) I) λh=>h
 |x::J,j,⟨_,B⟩,i+1,r,h,I=>MemNw.get B i r Zdi ZeZ
theorem DTurn.words{s0:An}{id base m bytes w x c:Nat}{l:List Nat}{v b:Operand}{j:Option Tmp}{ty:TypeId}{Y:String}{Z:Array Edge}{r:Option (Nat×Bool)}(R:H[id]? = some (.obj (WOV base u l)))
  (G:DZ ⟨vc,EV H id (.obj (WOV base u l)) (.obj (WOD base (l++[x]))) false⟩ (i.map HR.av) vv v=.d (ex u)) (O:DZ ⟨vc,EV H id (.obj (WOV base u l)) (.obj (WOD base (l++[x]))) false⟩ (i.map HR.av) vv b=.d (slD U 1 [[ex (.int .u32 (x:Nat))]]))
  (M:Tab P t (.slice 335) m w z) (N:Tab P 335 d 1 bytes uk) (g:uk=.int .u32 0) (E:AllNw id c f 0 i) (I:AllNw id vc.length [] 0 (vc.map (·.2))) (Q:MemNw id 0 H) (xa:s0.g.w.heap.size=base) (V:x<4294967296) (X:(l.length+1)*bytes<=140737488355328) (e:l.length+1<=4611686018427387904) :
  DTurn P s0 n vc H id (.obj (WOV base u l)) (.obj (WOD base (l++[x]))) i f c vv ⟨j,.call { callee:=.builtin .append,args:=#[v,b],argTypes:=#[t,t] },ty,Y,Z,r⟩ (.own id):=λF hF s W a T y=>by
 have xd:EV H id (.obj (WOV base u l)) (.obj (WOD base (l++[x]))) false=H:=by
  unfold EV;apply Ycb;intro A;rw[YbZ];split
  .rename_i h
   subst h;rw[R]
   try rw[Yan (Cy R)]
   rfl
  .rfl
 have xb:=y v Zdc;have xc:=y b Zdc;rw[G]at xb;rw[O]at xc;rw[xd]at T
 have:=A4e (P:=P) (o:=⟨j,.call { callee:=.builtin .append,args:=#[v,b],argTypes:=#[t,t] },ty,Y,Z,r⟩) rfl T R (λp J=>by
  rcases hF p J with⟨A,B,C,L⟩ | h
  .exact E.get A p.2 L ZbD (by rw[YaH];exact C)
  .obtain ⟨k,S⟩:=YbK h
   have:=(Yae.1 S).1;exact I.get k p.2 (by rw[Yax,S];rfl) ZbD ZbS) (λA o K q=>Q.get A o q ZbD) ZbD ZbD (exD xb) xc V M N g X e
 exact this
theorem A1r{s0:An}(base:Nat)(Y:Gf H (.obj (WOV base (.slice none 0 0) []))=some vz)(k:AWp P s0 n vp vk ⟨vc,vz⟩):AWp P s0 n vp vk ⟨vc,H⟩:=by
 rw[Fd Y]at k;refine⟨λa w ⟨s,W,A,T⟩=>?_⟩;have:=T.new (GS.Le.refl s) (dst:=none) (v:=undef) (u:=undef) (r:=.d CD) (ow:=.obj (WOV base (.slice none 0 0) [])) (λd e=>by cases e) trivial (WOV.nil base s) (λb F=>by cases F);exact k.run a w ⟨s,_,A,this⟩
theorem A40{s0:An}(id base:Nat)(l:List Nat)(c:H[id]? = some (.obj (WOD base l)))(k:∀v,AWp P s0 n vp vk ⟨vc.map λp=>(p.1,down id (ex v) p.2),(H.map (Ow.mapA (down id (ex v)))).set id (.obj (WOV base v l))⟩):AWp P s0 n vp vk ⟨vc,H⟩:=by
 refine⟨λa w ⟨s,W,A,T⟩=>(k (W id)).run a w ⟨s,W,A,?_⟩⟩
 exact T.upd (s':=s) T.le T.ok (GS.Chg.refl s) (id:=id) (o':=.obj (WOV base (W id) l)) (ρ':=W) (f:=down id (ex (W id))) c (λb _ _=>⟨rfl,λ_=>YdO⟩) (λ_ _=>rfl) (show WRel base l s (W id)from T.hp id _ c) (λb F=>.inl F) λI v B=>by
  cases I with
  |d x=>exact B
  |ptr i off=>exact B
  |own j=>
   show AVr H.length W s (bif Nat.beq j id then .d (ex (W id))else .own j) v
   cases F:Nat.beq j id with
   |true=>
    have e:j=id:=Yao F;subst e;exact B.2
   |false=>exact B
  |fn f Y=>
   show AVr H.length W s (bif Y.contains id then .d CD else .fn f Y) v
   cases F:Y.contains id with
   |true=>trivial
   |false=>exact B
theorem AVle.words{m id base:Nat}{l:List Nat}(c:H[id]? = some (.obj (WOV base z l))):AVle H m (.d (ex z)) (.d (wD l)):=λb W s u A S=>by
 have S:u=z:=S;rw[S];exact WRel.wD (A id _ c)
theorem A8b{i base:Nat}{l:List Nat}(h:H[i]? = some (.obj (WOD base l))):One H (.own i):=λb W s v B ⟨_,r⟩=>by
 have A:WRel base l s (W i):=B i _ h;rcases A.cases with⟨Z,_⟩ | ⟨g,cap,cur,Z,_⟩<;>rw[r,Z]<;>rfl
def RowR(T A:Nat)(C:List (List D))(s:GS)(v:Value):Prop:=∃h:List Value,s.w.ownsRow 0 T A v C.length h/\T≠335/\0<A/\(∀b,DP v=some b->∀k,s.S b k↔k<C.length*A)/\∀k,k<C.length->(C.getD k []).length=A/\∀j,j<A->∃u,h[k*A+j]? = some u/\u.oneCell'=true/\(DK (C.getD k []) j).rel s u
theorem RowR.lt{T sz:Nat}{v:Value}(h:RowR T sz vm s v){b:Nat}(F:DP v=some b):b<s.w.heap.size:=by
 obtain⟨A,⟨_,B⟩,_⟩:=h;rcases B with⟨Z,_⟩ | ⟨g,cap,cur,Z,e2,e3,e4⟩
 .rw [Z]at F;cases F
 .rw [Z]at F;cases F;exact Bw e3
theorem RowR.keep{T sz:Nat}{v:Value}(h:RowR T sz vm s v)(I:GS.Chg s vr)(F:∀b,DP v=some b->vr.w.heap[b]? = s.w.heap[b]? /\ ∀k,vr.S b k↔s.S b k):RowR T sz vm vr v:=by
 obtain⟨J,⟨A,B⟩,L,S,n,E⟩:=h;refine⟨J,⟨A,?_⟩,L,S,λb G k=>((F b G).2 k).trans (n b G k),λk C=>⟨(E k C).1,λj a=>?_⟩⟩
 .rcases B with B | ⟨g,cap,cur,e1,e2,e3,e4⟩
  .exact .inl B
  .exact Zkj
 .obtain ⟨u,H,r,O⟩:=(E k C).2 j a
  exact⟨u,H,r,(DK _ j).st O I⟩
def Ma(v:Value)(T k:Nat)(C:List (List D)):OD:=⟨λs _=>RowR T k C s v,λ_ _ b=>DP v=some b,λh F=>RowR.lt h F,λh I F=>⟨RowR.keep h I F,λ_ h=>h⟩⟩
theorem RowR.rel{T k:Nat}{v:Value}(h:RowR T k vm s v):(slD T k vm).rel s v:=by
 refine Ew (hp:=[.row T k vm]) (av:=.own 0) (ρ:=λ_=>v) (base:=0) (λi o q=>?_) ⟨YdB,rfl⟩ rfl
 match i,q with
 |0,q=>cases q;exact h
theorem AVle.rows{hp:List Ow}{m id T sz:Nat}{v:Value}{rows:List (List D)}(c:hp[id]? = some (.obj (Ma v T sz rows))):AVle hp m (.d (ex v)) (.d (slD T sz rows)):=λb W s u A S=>by
 have S:u=v:=S;rw[S];exact RowR.rel (A id _ c)
theorem Fc{s0:An}{c:Code}(T B:Nat)(I:T≠335)(A:0<B)(Y:Gf H (.obj (Ma (.slice none 0 0) T B []))=some vz)(k:AWp P s0 n c vk ⟨vc,vz⟩):AWp P s0 n c vk ⟨vc,H⟩:=by
 rw[Fd Y]at k;refine⟨λa w ⟨s,W,G,E⟩=>?_⟩;have:=E.new (GS.Le.refl s) (dst:=none) (v:=undef) (u:=undef) (r:=.d CD) (ow:=.obj (Ma (.slice none 0 0) T B [])) (λd e=>by cases e) trivial ⟨[],⟨by simp,.inl ⟨rfl,rfl⟩⟩,I,A,λb F=>(by cases F),λk C=>absurd C ZbS⟩ (λb F=>by cases F);exact k.run a w ⟨s,_,G,this⟩
theorem FU{s0:An}{c:Code}(id T A:Nat)(C:List (List D))(G:H[id]? = some (.row T A C))(k:∀v,AWp P s0 n c vk ⟨vc.map λp=>(p.1,down id (ex v) p.2),(H.map (Ow.mapA (down id (ex v)))).set id (.obj (Ma v T A C))⟩):AWp P s0 n c vk ⟨vc,H⟩:=by
 refine⟨λa w ⟨s,W,E,B⟩=>(k (W id)).run a w ⟨s,W,E,?_⟩⟩
 exact B.upd (s':=s) B.le B.ok (GS.Chg.refl s) (id:=id) (o':=.obj (Ma (W id) T A C)) (ρ':=W) (f:=down id (ex (W id))) G (λb _ _=>⟨rfl,λ_=>YdO⟩) (λ_ _=>rfl) (show RowR T A C s (W id)from B.hp id _ G) (λb F=>.inl F) λI v J=>by
  cases I with
  |d x=>exact J
  |ptr i off=>exact J
  |own j=>
   show AVr H.length W s (bif Nat.beq j id then .d (ex (W id))else .own j) v
   cases F:Nat.beq j id with
   |true=>
    have e:j=id:=Yao F;subst e;exact J.2
   |false=>exact J
  |fn f Y=>
   show AVr H.length W s (bif Y.contains id then .d CD else .fn f Y) v
   cases F:Y.contains id with
   |true=>trivial
   |false=>exact J
def UK(id:Nat):AV->AV
 |.d x=>.d x
 |.ptr i off=>bif Nat.beq i id then .d CD else .ptr i off
 |.own i=>bif Nat.beq i id then .d CD else .own i
 |.fn f Y=>bif Y.contains id then .d CD else .fn f Y
def AV.ni(id:Nat):AV->Bool
 |.d _=>true
 |.ptr i _=>!Nat.beq i id
 |.own i=>!Nat.beq i id
 |.fn _ Y=>!Y.contains id
theorem Zw:∀{I:AV},I.ni n=true->UK n I=I
 |.d _,_=>rfl
 |.ptr i _,h=>Zbg
 |.own i,h=>Zbg
 |.fn _ Y,h=>by
  have h:(!Y.contains n)=true:=h;have h:Y.contains n=false:=by simpa using h
  simp only[UK,h,cond_false]
theorem A74{s0:An}{o:Oper}{t T T2 l bytes id m b:Nat}{ox oy:Operand}(y:o.op=.call { callee:=.builtin .append,args:=#[ox,oy],argTypes:=#[t,t] })(hst:StI s0 n ⟨vc,H⟩ vl s vi)(hh:H[id]? = some (.obj (Ma uk T l vm)))(hF:vc.map (λp=>(p.1,UK id p.2))=vc)(hM:H.map (Ow.mapA (UK id))=H)(Z:vl.eval ox=uk)(Q:(slD T2 l ul).rel s (vl.eval oy))(M:Tab P t (.slice T) m b u)(hT:Tab P T d l bytes z)(xm:z.cells.size=l)(xh:(vm.length+ul.length)*bytes<=140737488355328)(xl:vm.length+ul.length<=4611686018427387904) :
  RegG.OpStep P o vl.eval s λI Y=>∃xa,StI s0 n ⟨vc,H.set id (.row T l (vm++ul))⟩ vl Y xa/\AVr H.length xa Y (.own id) I:=by
 have xp:RowR T l vm s uk:=hst.hp id _ hh;obtain⟨xs,E,L,S,q,w⟩:=xp;obtain⟨A,c,v,h7,h8,h9⟩:=Q;have xf:id<H.length:=Cy hh
 have xv:∀(v':Value) (Y:GS) (xt:List Value),(execOp vl.eval o).run P s.w=.ok (.value v') Y.w->GS.LeX s0.mine s0.g Y->Y.Ok->GS.Chg s Y->Y.w.ownsRow 0 T l v' (vm.length+ul.length) xt->(∀b,DP v'=some b->∀k,Y.S b k↔k<(vm.length+ul.length)*l) ->
   (∀b,b<s.w.heap.size->DP uk≠some b->Y.w.heap[b]? = s.w.heap[b]? /\ ∀k,Y.S b k↔s.S b k)->(∀b,DP v'=some b->DP uk=some b\/s.w.heap.size<=b) ->
   (∀k,k<(vm++ul).length->((vm++ul).getD k []).length=l/\∀j,j<l->∃I,xt[k*l+j]? = some I/\I.oneCell'=true/\(DK ((vm++ul).getD k []) j).rel Y I) ->
   RegG.OpStep P o vl.eval s λI Y=>∃xa,StI s0 n ⟨vc,H.set id (.row T l (vm++ul))⟩ vl Y xa/\AVr H.length xa Y (.own id) I:=by
  intro v' Y xt xd q1 q2 q3 q4 q5 q6 q7 q8;have J:(vm++ul).length=vm.length+ul.length:=Yaa
  have xj:=hst.upd (s':=Y) (o':=.row T l (vm++ul)) (ρ':=λi=>if i=id then v' else vi i) (f:=UK id) q1 q2 q3 hh q6 (λj a=>Yai a)
   ⟨xt, by simp only [Yan]; rw [J]; exact q4, L, S, fun b G k => by simp only [Yan] at G; rw [J]; exact q5 b G k, q8⟩ (fun b G => by replace G : DP (if id = id then v' else vi id) = some b := G; rw [Yan rfl] at G; exact q7 b G) fun U I xg => by
    cases U with
    |d x=>exact x.st xg q3
    |ptr i off=>
     obtain⟨p1,bb,p2,p3⟩:=xg;show AVr H.length _ Y (bif Nat.beq i id then .d CD else .ptr i off) I
     cases G:Nat.beq i id with
     |true=>trivial
     |false=>
      have e:i≠id:=YaI G;refine⟨p1,bb,?_,p3⟩;show(if i=id then v' else vi i)=_;rw[Yai e];exact p2
    |own j=>
     obtain⟨p1,p2⟩:=xg;show AVr H.length _ Y (bif Nat.beq j id then .d CD else .own j) I
     cases G:Nat.beq j id with
     |true=>trivial
     |false=>
      have e:j≠id:=YaI G;exact⟨p1,p2.trans (Yai e).symm⟩
    |fn f xc=>
     obtain⟨p1,p2⟩:=xg;show AVr H.length _ Y (bif xc.contains id then .d CD else .fn f xc) I
     cases G:xc.contains id with
     |true=>trivial
     |false=>
      have W:id∉xc:=λh=>by rw[YbG.2 h]at G;cases G
      exact⟨p1,by rw[p2,YaX λi K=>(Yai λe=>W (by rw[<-e];exact K):(if i=id then v' else vi i)=vi i)]⟩
  have xk:StI s0 n ⟨vc,H.set id (.row T l (vm++ul))⟩ vl Y (λi=>if i=id then v' else vi i):=by
   have:=xj;simp only[hF,hM]at this;exact this
  exact Ja xd Y rfl ⟨_,xk,xf,(Yan rfl).symm⟩
 have xr:∀v' O,(Builtin.append_ #[t,t] o.type #[uk,vl.eval oy]).run P s.w=.ok v' O->(execOp vl.eval o).run P s.w=.ok (.value v') O:=λv' O X=>by
  simp only[execOp,y,resolve,invoke,builtin,Sem.run_bind,Sem.run_pure,Result.andThen_ok,YcJ,Ybf,Ycs,Z,X]
 rcases Yaz ul.length with V | V
 .obtain rfl:ul=[]:=YaF V
  obtain⟨i,K,r,xn,xo⟩:=hT.info
  have xw:∃B N C,uk=.slice B N C/\N<=C:=Zav
  obtain⟨B,N,C,w1,w2⟩:=xw
  have X:(Builtin.append_ #[t,t] o.type #[uk,vl.eval oy]).run P s.w=.ok uk s.w:=by
   rw[v,w1]
   cases A with
   |none=>exact run_append_nothing s.w _ _ _ _ i M.und K _ _ _ w2 _ (Src.ofNil s.w M.und c)
   |some ad=>exact run_append_nothing s.w _ _ _ _ i M.und K _ _ _ w2 _ (Src.ofSlice s.w M.und _ _ _ [] ZbS ZbS ZbS)
  refine xv uk s xs (xr _ _ X) hst.le hst.ok (GS.Chg.refl s) Zed (λb G k=>by simpa using q b G k) (λb G _=>⟨rfl,λ_=>YdO⟩) (λb G=>.inl G) λk F=>?_;rw[YbD]at F ⊢;exact⟨(w k F).1,(w k F).2⟩
 .obtain ⟨g,p,e3,xb⟩:=h9 V
  subst e3;obtain⟨xe,n1,n2,n3,n4⟩:=Qu xb;obtain⟨v',Y,X,q1,q2,q3,q4,q5,q6,q7⟩:=Ut (P:=P) (ty:=o.type) hst.le hst.ok M.und hT xm L S E (λb G=>hst.own id _ b hh G) q g p ul.length c xe n1 V n2 n3 xh xl;refine xv v' Y (xs++xe) (xr _ _ (by rw[v];exact X)) q1 q2 q3 q4 q5 q6 q7 λk F=>?_;rw[Yaa]at F;rw[KL];have xq:xs.length=vm.length*l:=E.1;split
  .rename_i R
   refine⟨(w k R).1,λj a=>?_⟩;obtain⟨I,r1,xu,r3⟩:=(w k R).2 j a;refine⟨I,?_,xu,(DK _ j).st r3 q3⟩;rw[Yau]
   .exact r1
   .rw [xq]
    have:(k+1)*l<=vm.length*l:=YaB l R;exact Zhd
  .rename_i xi
   refine⟨(xb (k-vm.length) ZbD).1,λj a=>?_⟩;obtain⟨I,r1,xu,r3⟩:=n4 (k-vm.length) j ZbD a;refine⟨I,?_,xu,(DK _ j).st r3 q3⟩;have e3:k*l=vm.length*l+(k-vm.length)*l:=Zir
   rw[Yal ZbD,xq,<-r1];exact Zhc
theorem DTurn.rows{s0:An}{hp:List Ow}{t T e sz bytes id m b c:Nat}{z Z v:Value}{rows X:List (List D)}{g Y:Operand}{R:List Nat}{dd:Option Tmp}{ty:TypeId}{ps:String}{af:Array Edge}{gd:Option (Nat×Bool)}(Q:hp[id]? = some (.obj (Ma v T sz rows)))
  (G:DZ ⟨vc,EV hp id (.obj (Ma v T sz rows)) (.row T sz (rows++X)) false⟩ (i.map HR.av) vv g=.d (ex v)) (O:DZ ⟨vc,EV hp id (.obj (Ma v T sz rows)) (.row T sz (rows++X)) false⟩ (i.map HR.av) vv Y=.d (slD e sz X))
  (M:Tab P t (.slice T) m b Z) (k:Tab P T d sz bytes z) (f:z.cells.size=sz) (E:(i.zipIdx.all λp=>Nat.beq p.2 c||R.contains p.2||p.1.ni id)=true) (I:(vc.all λp=>p.2.ni id)=true) (N:hp.map (Ow.mapA (UK id))=hp) (V:(rows.length+X.length)*bytes<=140737488355328) (U:rows.length+X.length<=4611686018427387904) :
  DTurn P s0 n vc hp id (.obj (Ma v T sz rows)) (.row T sz (rows++X)) i R c vv ⟨dd,.call { callee:=.builtin .append,args:=#[g,Y],argTypes:=#[t,t] },ty,ps,af,gd⟩ (.own id):=λF hF s W a K j=>by
 have o:EV hp id (.obj (Ma v T sz rows)) (.row T sz (rows++X)) false=hp:=by
  unfold EV;apply Ycb;intro A;rw[YbZ];split
  .rename_i h
   subst h;rw[Q]
   try rw[Yan (Cy Q)]
   rfl
  .rfl
 have r:=j g Zdc;have l:=j Y Zdc;rw[G]at r;rw[O]at l;rw[o]at K;refine A74 (P:=P) (o:=⟨dd,.call { callee:=.builtin .append,args:=#[g,Y],argTypes:=#[t,t] },ty,ps,af,gd⟩) rfl K Q ?_ N (exD r) l M k f V U
 have:∀p∈F,UK id p.2=p.2:=λp J=>by
  rcases hF p J with⟨A,B,C,L⟩ | h
  .have:=Yaj.1 E (p.2, A) (by rw [Ycd]; exact L)
   simp only[Ybg]at this;rcases this with(S | S) | S
   .exact absurd (Yao S) B
   .exact absurd (YbG.1 S) C
   .exact Zw S
  .exact Zw (Yaj.1 I p h)
 conv=>rhs;rw[<-Yew F]
 exact YaX λp J=>by rw[this p J];rfl
theorem w32{n:Int}(h:0<=n/\n<=4294967295):IntKind.u32.wrap n=n:=by
 rw[IntKind.wrap_u32];omega
theorem RC{n m j:Nat}(f:n<2^j)(x:m*2^j+n<4294967296):IntKind.u32.wrap ((BitVec.ofInt IntKind.u32.bits ((m*2^j:Nat):Int) ||| BitVec.ofInt IntKind.u32.bits ((n:Nat):Int)).toNat)=((m*2^j+n:Nat):Int):=by
 have Z:(BitVec.ofInt IntKind.u32.bits ((n:Nat):Int))=BitVec.ofNat 32 n:=rfl;have s:(BitVec.ofInt IntKind.u32.bits ((m*2^j:Nat):Int))=BitVec.ofNat 32 (m*2^j):=rfl;rw[Z,s];show IntKind.u32.wrap (((BitVec.ofNat 32 (m*2^j) ||| BitVec.ofNat 32 n).toNat:Nat):Int)=_;rw[YdZ,Ycx,Ycx,YaS ZbD,YaS ZbD];have h:=Ycz f m;rw[YdN]at h;rw[<-h,w32 ZbD]
theorem A9G{l:List Nat}(h:OM l=none):Qd G0 l=none:=Rd.none h
theorem A9F{l c:List Nat}(h:OM l=some (n,c)):Qd G0 l=if n/2<=c.length/4 then(Co KB (n/2) c).map λy=>((decide (n%2=1),y.1),y.2)else none:=by
 have h:G0.nat l=some (n,c):=h;unfold Qd;rw[Rd.some h];unfold Ju Rd.bind;by_cases f:n/2<=c.length/4
 .simp only[f,decide_true,if_true]
  cases Co KB (n/2) c<;>rfl
 .simp [f]
theorem A0m:Rdr 307 (λx:Bool×List Nat=>AP (inC x)) (Qd G0):=Rdr.intro λT l J=>by
 have I:=DI T l J;refine Bu func307 rfl (Ag func307 ZbI ZbI) rfl λB N=>?_;rw[ntmps307];refine Go ?_;refine Bc [0] [] [] (I) (BX rfl) (λR=>(by repeat (first | exact AM (A9G R) | apply AF | apply PanQ.block | apply PanQ.loop):PanQ _ _) _) rfl rfl ZbC ZbA ZbH Zby ZbE trivial rfl ?_;rintro _ _ ⟨n,c,A,Z,rfl,rfl⟩;refine Kr ?_;have xk:=Fp A;have M:=A9F A;have q:=Z.len;obtain⟨m,E⟩:∃m,m=n/2:=⟨_,rfl⟩;rw[<-E]at M;refine Wa<|Y0<|Ai<|Y1<|Wm ?_;refine Wq (GT (r:=((m:Nat):Int)) (ao rfl) (ao rfl) ZbH ZcM) ?_;refine Wm ?_;refine Wq (BZ (ao rfl)) ?_;refine Wq AB ?_;refine Wq Cm ?_;refine Wq (Dz (ao rfl) (Aa rfl)) ?_;refine Wq (AO (r:=((c.length:Nat):Int)) (ao rfl) (Aa rfl) (Aa rfl) (ET ZbD)) ?_;refine Wq (GT (r:=((c.length/4:Nat):Int)) (ao rfl) (ao rfl) ZbH ZcM) ?_;refine Wq Ci ?_;apply Y0
 by_cases i:m<=c.length/4
 .rw [Yan i]at M
  refine HO (ao rfl) (Yad ZbD) ?_;refine Ys<|Y1<|Wm ?_;refine Wq (Md (r:=((n%2:Nat):Int)) (ao rfl) (ao rfl) ZbH Zda) ?_;refine Wq Ci ?_;(refine De rfl rfl ?_;(refine AI (Aa rfl) rfl rfl rfl ?_;(repeat ((first | refine⟨_,Aw (ao rfl),?_⟩ | refine⟨_,Po rfl,?_⟩);refine⟨_,rfl,?_⟩));refine⟨_,rfl,?_⟩));refine Al ?_;refine Sf ?_;refine Y0<|Ai<|Y1<|Wm ?_;refine Wq (GT (r:=((m:Nat):Int)) (ao rfl) (ao rfl) ZbH ZcM) ?_;refine Wm<|Y0<|AWp.block ?_
  refine A1r B.g.w.heap.size rfl ?_;refine AC (λu d=>∃k ws G v,k<=m/\u=m-k/\ws.length=k/\Byt G/\(Co KB m c=(Co KB (m-k) G).map λy=>(ws++y.1,y.2))/\4*(m-k)<=G.length/\d=⟨[(0,.ptr 0 0),(2,.ptr 2 0),(4,.ptr 3 0),(24,.d (ex (.int .u64 (m:Nat)))),(25,.d (ex (.int .u64 (k:Nat))))],[.var 92 [.d (GX T G)],.pin [(N,.own 0)],.var 109 [.d (ex (.bool false)),.d (ex (.slice none 0 0))],.var 109 [.d (ex (.bool (((n%2:Nat):Int)==1))),.d (ex v)],.obj (WOV B.g.w.heap.size v ws)]⟩) ?le ⟨0,[],c,.slice none 0 0,by omega,rfl,rfl,Z,by cases Co KB (m-0) c<;>simp,by omega,rfl⟩ ?round
  case le=>exact Zkl
  case round=>
   rintro u _ ⟨k,ws,G,v,C,rfl,xl,V,xg,S,rfl⟩;by_cases Q:k<m
   .have o:=A1T T G V 4 ZbH
    refine Go ?_;refine Bc [0] [] [] (o) (BX rfl) (λR=>(by repeat (first | exact AM (absurd R ZbD) | apply AF | apply PanQ.block | apply PanQ.loop):PanQ _ _) _) rfl rfl ZbC ZbA ZbH Zby ZbE trivial rfl ?_;rintro _ _ ⟨p,rfl,rfl⟩;refine Kr ?_
    obtain⟨W,L,O,f,H,rfl⟩:∃W L O f H,G=W::L::O::f::H:=by
     match G,p with
     |W::L::O::f::H,_=>exact⟨W,L,O,f,H,rfl⟩
    have b0:=V.lt W ZbS;have g:=V.lt L ZbS;have e:=V.lt O ZbS;have b3:=V.lt f ZbS;have z:Byt H:=V.drop 4;have xe:=V.len;have xj:ws.length<=1000000000:=by omega
    obtain⟨w,xf⟩:∃w,w=W*16777216+L*65536+O*256+f:=⟨_,rfl⟩;have K:w<4294967296:=by omega
    have F:=DV Q xg (show KB (W::L::O::f::H)=some (w,H)by rw[xf];rfl);obtain⟨t,xd⟩:∃x,x=W*2^24:=⟨_,rfl⟩;obtain⟨r,P⟩:∃x,x=L*2^16:=⟨_,rfl⟩;obtain⟨x2,xa⟩:∃x,x=O*2^8:=⟨_,rfl⟩;obtain⟨U,xb⟩:∃x,x=t+r:=⟨_,rfl⟩;obtain⟨h,xc⟩:∃x,x=U+x2:=⟨_,rfl⟩;have xi:IntKind.u32.wrap (((W:Nat):Int)*2^24)=((t:Nat):Int):=by rw[w32 ZbD];omega
    have xh:IntKind.u32.wrap (((L:Nat):Int)*2^16)=((r:Nat):Int):=by rw[w32 ZbD];omega
    have q8:IntKind.u32.wrap (((O:Nat):Int)*2^8)=((x2:Nat):Int):=by rw[w32 ZbD];omega
    have b:=RC (m:=W) (j:=24) (n:=r) ZbD ZbD;rw[<-xd,<-xb]at b;have s:=RC (m:=W*2^8+L) (j:=16) (n:=x2) ZbD ZbD;rw[show(W*2^8+L)*2^16=U by omega,<-xc]at s;have o3:=RC (m:=W*2^16+L*2^8+O) (j:=8) (n:=f) ZbD ZbD;rw[show(W*2^16+L*2^8+O)*2^8=h by omega,show h+f=w by omega]at o3;refine Go ?_;refine FJ 4 (.obj (WOV B.g.w.heap.size v ws)) (.obj (WOD B.g.w.heap.size (ws++[w]))) 25 27 [26,25,24,23,22,21,20,19,18,17,16,15,14,13,12,11,10,9,8,7,6,5,4,3,2,1,0] [24] [.ptr 3 1,.d (ex v),.d (GX T [W,L,O,f]),.d (Fg T [ex (.int .u8 ((W:Nat):Int))]),.d (ex (.int .u8 ((W:Nat):Int))),.d (ex (.int .u32 ((W:Nat):Int))),.d (ex (.int .u32 ((t:Nat):Int))),.d (GX T [W,L,O,f]),.d (Fg T [ex (.int .u8 ((L:Nat):Int))]),.d (ex (.int .u8 ((L:Nat):Int))),.d (ex (.int .u32 ((L:Nat):Int))),.d (ex (.int .u32 ((r:Nat):Int))),.d (ex (.int .u32 ((U:Nat):Int))),.d (GX T [W,L,O,f]),.d (Fg T [ex (.int .u8 ((O:Nat):Int))]),.d (ex (.int .u8 ((O:Nat):Int))),.d (ex (.int .u32 ((O:Nat):Int))),.d (ex (.int .u32 ((x2:Nat):Int))),.d (ex (.int .u32 ((h:Nat):Int))),.d (GX T [W,L,O,f]),.d (Fg T [ex (.int .u8 ((f:Nat):Int))]),.d (ex (.int .u8 ((f:Nat):Int))),.d (ex (.int .u32 ((f:Nat):Int))),.d (ex (.int .u32 ((w:Nat):Int))),.d (slD 335 1 [[ex (.int .u32 ((w:Nat):Int))]]),.own 4,.ptr 3 1] [[],[(29,0)],[],[(31,2)],[(32,3)],[(33,4)],[(34,5)],[],[(36,7)],[(37,8)],[(38,9)],[(39,10)],[(35,6),(40,11)],[],[(42,13)],[(43,14)],[(44,15)],[(45,16)],[(41,12),(46,17)],[],[(48,19)],[(49,20)],[(50,21)],[(47,18),(51,22)],[(52,23)],[(30,1),(53,24)],[]] [(0,.ptr 0 0),(2,.ptr 2 0),(4,.ptr 3 0),(24,.d (ex (.int .u64 (m:Nat)))),(25,.d (ex (.int .u64 (k:Nat)))),(5,.d (GX T [W,L,O,f]))] [(54,.own 4),(55,.ptr 3 1),(0,.ptr 0 0),(2,.ptr 2 0),(4,.ptr 3 0),(24,.d (ex (.int .u64 (m:Nat)))),(25,.d (ex (.int .u64 (k:Nat))))] ZbI rfl ⟨rfl,rfl,rfl,rfl,rfl,rfl,trivial⟩ rfl rfl ZbI ZbI ZbI (by refine DSteps.q rfl ZbB ?_;refine DSteps.q rfl (λ_=>JY (ah rfl) rfl (Aa rfl) rfl rfl) ?_;refine DSteps.q rfl ZbB ?_;refine DSteps.q rfl (λ_=>Hn rfl (ah rfl) (Aa rfl) (Aa rfl) rfl rfl ZbD) ?_;refine DSteps.q rfl (λ_=>Gm (ah rfl) (Aa rfl) rfl rfl) ?_;refine DSteps.q rfl (λ_=>AO (ah rfl) (Aa rfl) (Aa rfl) (w32 ZbD)) ?_;refine DSteps.q rfl (λ_=>Mc (n:=24) (ah rfl) (ah rfl) rfl xi) ?_;refine DSteps.q rfl ZbB ?_;refine DSteps.q rfl (λ_=>Hn rfl (ah rfl) (Aa rfl) (Aa rfl) rfl rfl ZbD) ?_;refine DSteps.q rfl (λ_=>Gm (ah rfl) (Aa rfl) rfl rfl) ?_;refine DSteps.q rfl (λ_=>AO (ah rfl) (Aa rfl) (Aa rfl) (w32 ZbD)) ?_;refine DSteps.q rfl (λ_=>Mc (n:=16) (ah rfl) (ah rfl) rfl xh) ?_;refine DSteps.q rfl (λ_=>Wy (ah rfl) (ah rfl) b) ?_;refine DSteps.q rfl ZbB ?_;refine DSteps.q rfl (λ_=>Hn rfl (ah rfl) (Aa rfl) (Aa rfl) rfl rfl ZbD) ?_;refine DSteps.q rfl (λ_=>Gm (ah rfl) (Aa rfl) rfl rfl) ?_;refine DSteps.q rfl (λ_=>AO (ah rfl) (Aa rfl) (Aa rfl) (w32 ZbD)) ?_;refine DSteps.q rfl (λ_=>Mc (n:=8) (ah rfl) (ah rfl) rfl q8) ?_;refine DSteps.q rfl (λ_=>Wy (ah rfl) (ah rfl) s) ?_;refine DSteps.q rfl ZbB ?_;refine DSteps.q rfl (λ_=>Hn rfl (ah rfl) (Aa rfl) (Aa rfl) rfl rfl ZbD) ?_;refine DSteps.q rfl (λ_=>Gm (ah rfl) (Aa rfl) rfl rfl) ?_;refine DSteps.q rfl (λ_=>AO (ah rfl) (Aa rfl) (Aa rfl) (w32 ZbD)) ?_;refine DSteps.q rfl (λ_=>Wy (ah rfl) (ah rfl) o3) ?_;refine DSteps.q rfl (λ_=>Aq Zdh) ?_;refine DSteps.k rfl (DTurn.words rfl rfl rfl (Aa rfl) (Aa rfl) rfl (by repeat (first | exact AllNw.nil | apply AllNw.x | apply AllNw.b | apply AllNw.e | (refine AllNw.p rfl ?_) | (refine AllNw.c rfl ?_) | (refine AllNw.l rfl ?_) | (refine AllNw.o rfl ?_))) (by repeat (first | exact AllNw.nil | apply AllNw.x | apply AllNw.b | (refine AllNw.p rfl ?_))) (by repeat (first | exact MemNw.nil | (refine A8e rfl ?_) | (refine A8d (by repeat (first | exact AllNw.nil | apply AllNw.x | apply AllNw.b)) ?_) | (refine MemNw.p (by repeat (first | exact AllNw.nil | (refine AllNw.o rfl ?_))) ?_))) rfl K ZbD ZbD) ?_;refine DSteps.q rfl ZbB ?_;exact DSteps.nil) ZbI ZbI ⟨rfl,rfl,rfl,rfl,rfl,rfl,rfl,trivial⟩ [.var 92 [.d (GX T H)],.pin [(N,.own 0)],.var 109 [.d (ex (.bool false)),.d (ex (.slice none 0 0))],.var 109 [.d (ex (.bool (((n%2:Nat):Int)==1))),.d (ex v)],.obj (WOD B.g.w.heap.size (ws++[w]))] rfl ?_;refine En (ao rfl) (ao rfl) rfl (Aa rfl) (A8b rfl) rfl rfl ?_;refine AWl.nil<|Bh<|Yn ?_;refine A40 4 B.g.w.heap.size (ws++[w]) rfl λY=>?_;apply AWp.region
    refine ZfH ?_;refine Ah (m-(k+1)) ZbD ⟨k+1,ws++[w],H,Y,by omega,rfl,by rw[Yaa];simp;omega,z,F,by simp at S;omega,rfl⟩ ?_;exact Zkl
   .obtain rfl:k=m:=by omega
    have X:Co KB k c=some (ws,G):=by rw[xg,Ydo];simp[Co,Cq]
    rw[X]at M;apply Y1;refine Wq AN ?_;refine Y0<|Ai<|Cf<|Cg<|BE<|BR<|BH<|Yn<|Y1 ?_
    refine Bj (σ':=⟨[(2,.ptr 2 0),(4,.ptr 3 0)],[.var 92 [.d (GX T G)],.pin [(N,.own 0)],.var 109 ([ex (.bool false),ex (.slice none 0 0)].map .d),.var 109 ([ex (.bool (((n%2:Nat):Int)==1)),wD ws].map .d)]⟩) ?wk ?_
    case wk => exact Ac (by repeat (first | exact FrLe.nil | refine Yp ?_)) (by
     refine HpLe.cons (Ad rfl) ?_;refine HpLe.cons (Ak rfl) ?_;refine HpLe.cons (Ad rfl) ?_;refine HpLe.cons (OwLe.var rfl λj y a=>?_) HpLe.nil
     match j,a with
     |0,a=>cases a;exact⟨_,rfl,AVle.d rfl⟩
     |1,a=>cases a;exact⟨_,rfl,AVle.words (id:=4) rfl⟩)
    refine Zfv ?_;exact⟨((((n%2:Nat):Int)==1),ws),G,by rw[M];simp only[Yds];congr 3;rw[YcP];simp;omega,V,rfl,rfl⟩
 .rw [Yai i]at M
  refine Zha ?_;refine Dr (ao rfl) ?_;exact(by repeat (first | exact AM (M) | apply AF | apply PanQ.block | apply PanQ.loop):PanQ _ _) _
theorem A7T(U:Rdr 184 (λx:List (List RTm)=>Ib x) (EL G0))(xd:Rdr 186 (λx:List (Nat->Int)=>Ep x) (MF G0))(xe:Rdr 189 (λx:List (List (List RTm))=>SY x) (MB G0))(xq:Rdr 190 (λx:Rsl=>AP (Ro x)) (Vc G0))(xc:Rdr 188 (λx:List (Nat->RQ×RQ)=>Gb x) (MO G0))(xo:Rdr 192 (λx:RQ×RQ=>AP (Jf x)) (Tk G0))(xr:Rdr 194 (λx:RQ×List RTm=>AP (Jq x)) (ZP G0))(xp:Rdr 196 (λx:Nat->RQ=>AP (Mm x)) (ptP G0)):Rdr 98 (λe:Crt=>AP (DD e)) (Ko G0):=Rdr.intro λT l J=>by
 have V:=GB T l J;refine Bu func98 rfl (Ag func98 ZbI ZbI) rfl λv E=>?_;rw[ntmps98];refine Go ?_;refine Bc [0] [] [] (V) (BX rfl) (λR=>(by repeat (first | exact AM (by unfold Ko;exact Rd.none R) | apply AF | apply PanQ.block | apply PanQ.loop):PanQ _ _) _) rfl rfl ZbC ZbA ZbH Zby ZbE trivial rfl ?_;rintro _ _ ⟨nv,c,A,G,rfl,rfl⟩;refine Kr ?_;have M:=U T c G;refine Go ?_;refine Bc [0] [] [] (M) (BX rfl) (λR=>(by repeat (first | exact AM (by unfold Ko;rw[Rd.some A];exact Rd.none R) | apply AF | apply PanQ.block | apply PanQ.loop):PanQ _ _) _) rfl rfl ZbC ZbA ZbH Zby ZbE trivial rfl ?_;rintro _ _ ⟨xn,a,B,F,rfl,rfl⟩;refine Kr ?_;have K:=U T a F;refine Go ?_;refine Bc [0] [] [] (K) (BX rfl) (λR=>(by repeat (first | exact AM (by unfold Ko;rw[Rd.some A,Rd.some B];exact Rd.none R) | apply AF | apply PanQ.block | apply PanQ.loop):PanQ _ _) _) rfl rfl ZbC ZbA ZbH Zby ZbE trivial rfl ?_;rintro _ _ ⟨O,H,L,z,rfl,rfl⟩;refine Kr ?_;have b:=xd T H z;refine Go ?_;refine Bc [0] [] [] (b) (BX rfl) (λR=>(by repeat (first | exact AM (by unfold Ko;rw[Rd.some A,Rd.some B,Rd.some L];exact Rd.none R) | apply AF | apply PanQ.block | apply PanQ.loop):PanQ _ _) _) rfl rfl ZbC ZbA ZbH Zby ZbE trivial rfl ?_;rintro _ _ ⟨Y,f,S,q,rfl,rfl⟩;refine Kr ?_;have r:=xe T f q;refine Go ?_;refine Bc [0] [] [] (r) (BX rfl) (λR=>(by repeat (first | exact AM (by unfold Ko;rw[Rd.some A,Rd.some B,Rd.some L,Rd.some S];exact Rd.none R) | apply AF | apply PanQ.block | apply PanQ.loop):PanQ _ _) _) rfl rfl ZbC ZbA ZbH Zby ZbE trivial rfl ?_;rintro _ _ ⟨Z,h,n,m,rfl,rfl⟩;refine Kr ?_;have xf:=xe T h m;refine Go ?_;refine Bc [0] [] [] (xf) (BX rfl) (λR=>(by repeat (first | exact AM (by unfold Ko;rw[Rd.some A,Rd.some B,Rd.some L,Rd.some S,Rd.some n];exact Rd.none R) | apply AF | apply PanQ.block | apply PanQ.loop):PanQ _ _) _) rfl rfl ZbC ZbA ZbH Zby ZbE trivial rfl ?_;rintro _ _ ⟨qv,i,C,t,rfl,rfl⟩;refine Kr ?_;have xg:=xe T i t;refine Go ?_;refine Bc [0] [] [] (xg) (BX rfl) (λR=>(by repeat (first | exact AM (by unfold Ko;rw[Rd.some A,Rd.some B,Rd.some L,Rd.some S,Rd.some n,Rd.some C];exact Rd.none R) | apply AF | apply PanQ.block | apply PanQ.loop):PanQ _ _) _) rfl rfl ZbC ZbA ZbH Zby ZbE trivial rfl ?_;rintro _ _ ⟨X,j,g,u,rfl,rfl⟩;refine Kr ?_;have xh:=xq T j u;refine Go ?_;refine Bc [0] [] [] (xh) (BX rfl) (λR=>(by repeat (first | exact AM (by unfold Ko;rw[Rd.some A,Rd.some B,Rd.some L,Rd.some S,Rd.some n,Rd.some C,Rd.some g];exact Rd.none R) | apply AF | apply PanQ.block | apply PanQ.loop):PanQ _ _) _) rfl rfl ZbC ZbA ZbH Zby ZbE trivial rfl ?_;rintro _ _ ⟨d,k,y,w,rfl,rfl⟩;refine Kr ?_;have xi:=(Ac2 xo) T k w;refine Zgw ?_;refine Bc [0] [] [] (xi) (BX rfl) (λR=>(by repeat (first | exact AM (by unfold Ko;rw[Rd.some A,Rd.some B,Rd.some L,Rd.some S,Rd.some n,Rd.some C,Rd.some g,Rd.some y];exact Rd.none R) | apply AF | apply PanQ.block | apply PanQ.loop):PanQ _ _) _) rfl rfl ZbC ZbA ZbH Zby ZbE trivial rfl ?_;rintro _ _ ⟨I,p,Q,P,rfl,rfl⟩;refine Kr ?_;have xu:=(Ac0 xr) T p P;refine Zgw ?_;refine Bc [0] [] [] (xu) (BX rfl) (λR=>(by repeat (first | exact AM (by unfold Ko;rw[Rd.some A,Rd.some B,Rd.some L,Rd.some S,Rd.some n,Rd.some C,Rd.some g,Rd.some y,Rd.some Q];exact Rd.none R) | apply AF | apply PanQ.block | apply PanQ.loop):PanQ _ _) _) rfl rfl ZbC ZbA ZbH Zby ZbE trivial rfl ?_;rintro _ _ ⟨xw,xa,W,xj,rfl,rfl⟩;refine Kr ?_;have xs:=(Ac1 xp) T xa xj;refine Zgw ?_;refine Bc [0] [] [] (xs) (BX rfl) (λR=>(by repeat (first | exact AM (by unfold Ko;rw[Rd.some A,Rd.some B,Rd.some L,Rd.some S,Rd.some n,Rd.some C,Rd.some g,Rd.some y,Rd.some Q,Rd.some W];exact Rd.none R) | apply AF | apply PanQ.block | apply PanQ.loop):PanQ _ _) _) rfl rfl ZbC ZbA ZbH Zby ZbE trivial rfl ?_;rintro _ _ ⟨xv,xb,s,xk,rfl,rfl⟩;refine Kr ?_;have xt:=xc T xb xk;refine Go ?_;refine Bc [0] [] [] (xt) (BX rfl) (λR=>(by repeat (first | exact AM (by unfold Ko;rw[Rd.some A,Rd.some B,Rd.some L,Rd.some S,Rd.some n,Rd.some C,Rd.some g,Rd.some y,Rd.some Q,Rd.some W,Rd.some s];exact Rd.none R) | apply AF | apply PanQ.block | apply PanQ.loop):PanQ _ _) _) rfl rfl ZbC ZbA ZbH Zby ZbE trivial rfl ?_;rintro _ _ ⟨N,xm,o,xl,rfl,rfl⟩;refine Kr ?_;refine Zfv ?_;exact⟨⟨nv,xn,O,Y,Z,qv,X,d,I,xw,xv,N⟩,xm,by unfold Ko;rw[Rd.some A,Rd.some B,Rd.some L,Rd.some S,Rd.some n,Rd.some C,Rd.some g,Rd.some y,Rd.some Q,Rd.some W,Rd.some s,Rd.some o];rfl,xl,rfl,rfl⟩
theorem A7C(I:Rdr 96 (λx:Cor=>AP (Eb x)) (VQ G0))(M:Rdr 97 (λx:Clm=>AP (EE x)) (Mo G0))(V:Rdr 98 (λx:Crt=>AP (DD x)) (Ko G0)):Rdr 42 (λf:Fct=>AP (El f)) (OU G0):=Rdr.intro λT l J=>by
 have N:=I T l J;refine Bu func42 rfl (Ag func42 ZbI ZbI) rfl λv E=>?_;rw[ntmps42];refine Go ?_;refine Bc [0] [] [] (N) (BX rfl) (λR=>(by repeat (first | exact AM (Rd.none R) | apply AF | apply PanQ.block | apply PanQ.loop):PanQ _ _) _) rfl rfl ZbC ZbA ZbH Zby ZbE trivial rfl ?_;rintro _ _ ⟨k,C,A,G,rfl,rfl⟩;refine Kr ?_;have K:=M T C G;refine Go ?_;refine Bc [0] [] [] (K) (BX rfl) (λR=>(by repeat (first | exact AM (by unfold OU;rw[Rd.some A];exact Rd.none R) | apply AF | apply PanQ.block | apply PanQ.loop):PanQ _ _) _) rfl rfl ZbC ZbA ZbH Zby ZbE trivial rfl ?_;rintro _ _ ⟨c,a,B,F,rfl,rfl⟩;refine Kr ?_;have W:=V T a F;refine Go ?_;refine Bc [0] [] [] (W) (BX rfl) (λR=>(by repeat (first | exact AM (by unfold OU;rw[Rd.some A,Rd.some B];exact Rd.none R) | apply AF | apply PanQ.block | apply PanQ.loop):PanQ _ _) _) rfl rfl ZbC ZbA ZbH Zby ZbE trivial rfl ?_;rintro _ _ ⟨e,H,L,z,rfl,rfl⟩;refine Kr ?_;refine Zfv ?_;exact⟨⟨k,c,e⟩,H,by unfold OU;rw[Rd.some A,Rd.some B,Rd.some L];rfl,z,rfl,rfl⟩
theorem A9L:Rdr 42 (λf:Fct=>AP (El f)) (OU G0):=by
 have rat:=Xo A0m;have k:=XV rat;have g:=A7b (A6X rat);have C:=A4W g;have l:=A5S (Aae k);have H:=A52 RE;exact A7C (A7K C (XR Xu)) (A5L g C H l) (A7T C H (A2A C) (Vf (Te rat)) l k (A2E rat g) (A4Z rat))
