/- Part 25. No condition. -/
import Derived.Test.YtcikkglcoeedlaaGreatDf18
import Derived.Test.YtcikkglcoeedlaaGreatDf19
import Derived.Test.YtcikkglcoeedlaaGreatDf20
import Derived.Test.YtcikkglcoeedlaaGreatDf21
import Derived.Test.YtcikkglcoeedlaaGreatDf23
import Derived.Test.YtcikkglcoeedlaaGreatDf24
set_option linter.unusedSimpArgs false
set_option linter.unusedVariables false
set_option maxRecDepth 100000
set_option maxHeartbeats 8000000
namespace Go.Proofs.YtcikkglcoeedlaaGreat
open _root_.Go.Proofs.Tryz
open Go.RowKit
variable{vj:Act}{vp:Code}{vl:Exit->AS->Prop}{s vr:GS}{a:Int}{vm ud:List (List D)}{vc:List (Nat×AV)}{vw:List (Nat×Nat)}{R:List AV}{v:List D}{h:List Nat}{H vA:List Ow}{n:Nat}{vi:Nat->Value}{P:Program}{d:TypeDesc}{t U:TypeId}{z u uk:Value}
theorem Vw(r:Rsl)(V:RsW r):Wr 207 (AQ (RE r)) (Kg r):=Wr.intro λb E=>by
 have Q:Kg r=Fy r.l++GF r.q++DC GF r.r 8:=rfl;rw[Q]at E ⊢;simp only[Yaa]at E;have d:=RW r.l V.l b ZbG;have q:=Mu r.q V.q (b++Fy r.l) Zdy;refine BC func207 rfl (Ag func207 ZbK ZbK) rfl λw x h=>?_;rw[ntmps207];refine ZfL ?_;rintro _ _ ⟨rfl,rfl⟩;refine ZgW ?_;rintro _ _ ⟨rfl,rfl⟩;refine ZfN ?_;refine AF (λv c=>∃k,k<=8/\v=8-k/\c=⟨[(0,.ptr 0 0),(15,.d (AQ (up8 r.r))),(16,.d (ex (.int .i64 (k:Nat))))],[.var 103 [.own 1],.row 5 1 (CR (b++Fy r.l++GF r.q++DC (GF) r.r k)),.pin [(x,.own 0)]]⟩) ?le ⟨0,by omega,rfl,rfl⟩ ?round
 case le=>exact Ac Zck Zcx
 case round=>
  rintro v _ ⟨k,B,rfl,rfl⟩;by_cases O:k<8
  .have B:=Gg (GF) r.r O
   have F:=Mu (r.r k) (V.r k O) (b++Fy r.l++GF r.q++DC (GF) r.r k) ZbO;refine Go ?_;refine Wq (Gj (ao rfl) (ao rfl) (Aa rfl) (Aa rfl) rfl O (A1z O)) ?_;refine ZgX ?_;exact Zix
  .obtain rfl:k=8:=by omega
   refine Go ?_
   first | refine Bs RetsA.none rfl ?_ rfl | refine AW RetsA.none rfl ?_ rfl
   exact⟨rfl,by rw[Yaf,Yaf,Yaf];rfl⟩
theorem A2o(k:Cor)(h:CoW k):Wr 53 (AQ (Ec k)) (FV k):=Wr.intro λb E=>by
 simp only[FV,Yaa]at E;have d:=FL k.n h.n (b) ZbO;have q:=JI k.e h.e (b++Bm k.n) ZbO;have A:=JI k.f h.f (b++Bm k.n++Bf k.e) ZbO;refine BC func53 rfl (Ag func53 ZbK ZbK) rfl λw x B=>?_;rw[ntmps53];refine ZfL ?_;rintro _ _ ⟨rfl,rfl⟩;refine Kr ?_;refine Bk (σ':=⟨[(0,.ptr 0 0),(3,.ptr 3 0)],[.var 103 [.own 1],.row 5 1 (CR (b++Bm k.n)),.pin [(x,.own 0)],.var 26 ((Ec k).map .d)]⟩) ?_ ?_
 .exact Zku
 refine Zgm ?_;rintro _ _ ⟨rfl,rfl⟩;refine Kr ?_;refine Bk (σ':=⟨[(0,.ptr 0 0),(3,.ptr 3 0)],[.var 103 [.own 1],.row 5 1 (CR (b++Bm k.n++Bf k.e)),.pin [(x,.own 0)],.var 26 ((Ec k).map .d)]⟩) ?_ ?_
 .exact Zku
 refine Zgn ?_;rintro _ _ ⟨rfl,rfl⟩;refine Kr ?_;refine Bk (σ':=⟨[(0,.ptr 0 0),(3,.ptr 3 0)],[.var 103 [.own 1],.row 5 1 (CR (b++Bm k.n++Bf k.e++Bf k.f)),.pin [(x,.own 0)],.var 26 ((Ec k).map .d)]⟩) ?_ ?_
 .exact Zku
 apply AWl.nil
 first | refine Bs RetsA.none rfl ?_ rfl | refine AW RetsA.none rfl ?_ rfl
 exact⟨rfl,by simp only[FV,Yaf];rfl⟩
theorem A5Y(c:Clm)(h:ClW c):Wr 111 (AQ (ED c)) (IN c):=Wr.intro λb E=>by
 simp only[IN,Yaa]at E;have d:=FL c.kind h.kind (b) ZbO;have q:=QJ c.p h.p (b++Bm c.kind) ZbO;have A:=FL c.n h.n (b++Bm c.kind++Cp c.p) ZbO;have K:=FL c.d h.d (b++Bm c.kind++Cp c.p++Bm c.n) ZbO;have Y:=FL c.r h.r (b++Bm c.kind++Cp c.p++Bm c.n++Bm c.d) ZbO;have n:=RP c.o h.o (b++Bm c.kind++Cp c.p++Bm c.n++Bm c.d++Bm c.r) ZbO;have B:=JI c.l h.l (b++Bm c.kind++Cp c.p++Bm c.n++Bm c.d++Bm c.r++BZ c.o) ZbO;have f:=AaJ c.s h.s (b++Bm c.kind++Cp c.p++Bm c.n++Bm c.d++Bm c.r++BZ c.o++Bf c.l) ZbO;have y:=YO c.b h.b (b++Bm c.kind++Cp c.p++Bm c.n++Bm c.d++Bm c.r++BZ c.o++Bf c.l++Bt Bm c.s) ZbO;refine BC func111 rfl (Ag func111 ZbK ZbK) rfl λw x C=>?_;rw[ntmps111];refine ZfL ?_;rintro _ _ ⟨rfl,rfl⟩;refine Kr ?_;refine Bk (σ':=⟨[(0,.ptr 0 0),(3,.ptr 3 0)],[.var 103 [.own 1],.row 5 1 (CR (b++Bm c.kind)),.pin [(x,.own 0)],.var 34 ((ED c).map .d)]⟩) ?_ ?_
 .exact Zku
 refine Zgm ?_;rintro _ _ ⟨rfl,rfl⟩;refine Kr ?_;refine Bk (σ':=⟨[(0,.ptr 0 0),(3,.ptr 3 0)],[.var 103 [.own 1],.row 5 1 (CR (b++Bm c.kind++Cp c.p)),.pin [(x,.own 0)],.var 34 ((ED c).map .d)]⟩) ?_ ?_
 .exact Zku
 refine Zgn ?_;rintro _ _ ⟨rfl,rfl⟩;refine Kr ?_;refine Bk (σ':=⟨[(0,.ptr 0 0),(3,.ptr 3 0)],[.var 103 [.own 1],.row 5 1 (CR (b++Bm c.kind++Cp c.p++Bm c.n)),.pin [(x,.own 0)],.var 34 ((ED c).map .d)]⟩) ?_ ?_
 .exact Zku
 refine Go ?_;refine AU [0,1] [] [] (K) ZbC rfl rfl ZbF ZbD ZbL ZbB ZbH trivial rfl ?_;rintro _ _ ⟨rfl,rfl⟩;refine Kr ?_;refine Bk (σ':=⟨[(0,.ptr 0 0),(3,.ptr 3 0)],[.var 103 [.own 1],.row 5 1 (CR (b++Bm c.kind++Cp c.p++Bm c.n++Bm c.d)),.pin [(x,.own 0)],.var 34 ((ED c).map .d)]⟩) ?_ ?_
 .exact Zku
 refine Go ?_;refine AU [0,1] [] [] (Y) ZbC rfl rfl ZbF ZbD ZbL ZbB ZbH trivial rfl ?_;rintro _ _ ⟨rfl,rfl⟩;refine Kr ?_;refine Bk (σ':=⟨[(0,.ptr 0 0),(3,.ptr 3 0)],[.var 103 [.own 1],.row 5 1 (CR (b++Bm c.kind++Cp c.p++Bm c.n++Bm c.d++Bm c.r)),.pin [(x,.own 0)],.var 34 ((ED c).map .d)]⟩) ?_ ?_
 .exact Zku
 refine Go ?_;refine AU [0,1] [] [] (n) ZbC rfl rfl ZbF ZbD ZbL ZbB ZbH trivial rfl ?_;rintro _ _ ⟨rfl,rfl⟩;refine Kr ?_;refine Bk (σ':=⟨[(0,.ptr 0 0),(3,.ptr 3 0)],[.var 103 [.own 1],.row 5 1 (CR (b++Bm c.kind++Cp c.p++Bm c.n++Bm c.d++Bm c.r++BZ c.o)),.pin [(x,.own 0)],.var 34 ((ED c).map .d)]⟩) ?_ ?_
 .exact Zku
 refine Go ?_;refine AU [0,1] [] [] (B) ZbC rfl rfl ZbF ZbD ZbL ZbB ZbH trivial rfl ?_;rintro _ _ ⟨rfl,rfl⟩;refine Kr ?_;refine Bk (σ':=⟨[(0,.ptr 0 0),(3,.ptr 3 0)],[.var 103 [.own 1],.row 5 1 (CR (b++Bm c.kind++Cp c.p++Bm c.n++Bm c.d++Bm c.r++BZ c.o++Bf c.l)),.pin [(x,.own 0)],.var 34 ((ED c).map .d)]⟩) ?_ ?_
 .exact Zku
 refine Zgy ?_;refine AU [0,1] [] [] (f) ZbC rfl rfl ZbF ZbD ZbL ZbB ZbH trivial rfl ?_;rintro _ _ ⟨rfl,rfl⟩;refine Kr ?_;refine Bk (σ':=⟨[(0,.ptr 0 0),(3,.ptr 3 0)],[.var 103 [.own 1],.row 5 1 (CR (b++Bm c.kind++Cp c.p++Bm c.n++Bm c.d++Bm c.r++BZ c.o++Bf c.l++Bt Bm c.s)),.pin [(x,.own 0)],.var 34 ((ED c).map .d)]⟩) ?_ ?_
 .exact Zku
 refine Go ?_;refine AU [0,1] [] [] (y) ZbC rfl rfl ZbF ZbD ZbL ZbB ZbH trivial rfl ?_;rintro _ _ ⟨rfl,rfl⟩;refine Kr ?_;refine Bk (σ':=⟨[(0,.ptr 0 0),(3,.ptr 3 0)],[.var 103 [.own 1],.row 5 1 (CR (b++Bm c.kind++Cp c.p++Bm c.n++Bm c.d++Bm c.r++BZ c.o++Bf c.l++Bt Bm c.s++Fb c.b)),.pin [(x,.own 0)],.var 34 ((ED c).map .d)]⟩) ?_ ?_
 .exact Zku
 apply AWl.nil
 first | refine Bs RetsA.none rfl ?_ rfl | refine AW RetsA.none rfl ?_ rfl
 exact⟨rfl,by simp only[IN,Yaf];rfl⟩
theorem A7Z(e:Crt)(h:CrW e):Wr 112 (AQ (DE e)) (KC e):=Wr.intro λb E=>by
 simp only[KC,Yaa]at E;have d:=FL e.n h.n (b) ZbO;have q:=JI e.cof h.cof (b++Bm e.n) ZbO;have A:=JI e.g h.g (b++Bm e.n++Bf e.cof) ZbO;have K:=RP e.o h.o (b++Bm e.n++Bf e.cof++Bf e.g) ZbO;have Y:=OF e.c h.c (b++Bm e.n++Bf e.cof++Bf e.g++BZ e.o) ZbO;have n:=OF e.q h.q (b++Bm e.n++Bf e.cof++Bf e.g++BZ e.o++BJ e.c) ZbO;have B:=OF e.s h.s (b++Bm e.n++Bf e.cof++Bf e.g++BZ e.o++BJ e.c++BJ e.q) ZbO;have f:=Vw e.r h.r (b++Bm e.n++Bf e.cof++Bf e.g++BZ e.o++BJ e.c++BJ e.q++BJ e.s) ZbO;have y:=AbJ e.a h.a (b++Bm e.n++Bf e.cof++Bf e.g++BZ e.o++BJ e.c++BJ e.q++BJ e.s++Kg e.r) ZbO;have W:=AbH e.sq h.sq (b++Bm e.n++Bf e.cof++Bf e.g++BZ e.o++BJ e.c++BJ e.q++BJ e.s++Kg e.r++Bt GO e.a) ZbO;have X:=AbI e.x h.x (b++Bm e.n++Bf e.cof++Bf e.g++BZ e.o++BJ e.c++BJ e.q++BJ e.s++Kg e.r++Bt GO e.a++Bt Kz e.sq) ZbO;have v:=YO e.b h.b (b++Bm e.n++Bf e.cof++Bf e.g++BZ e.o++BJ e.c++BJ e.q++BJ e.s++Kg e.r++Bt GO e.a++Bt Kz e.sq++Bt Qp e.x) ZbO;refine BC func112 rfl (Ag func112 ZbK ZbK) rfl λw x C=>?_;rw[ntmps112];refine ZfL ?_;rintro _ _ ⟨rfl,rfl⟩;refine Kr ?_;refine Bk (σ':=⟨[(0,.ptr 0 0),(3,.ptr 3 0)],[.var 103 [.own 1],.row 5 1 (CR (b++Bm e.n)),.pin [(x,.own 0)],.var 46 ((DE e).map .d)]⟩) ?_ ?_
 .exact Zku
 refine Zgm ?_;rintro _ _ ⟨rfl,rfl⟩;refine Kr ?_;refine Bk (σ':=⟨[(0,.ptr 0 0),(3,.ptr 3 0)],[.var 103 [.own 1],.row 5 1 (CR (b++Bm e.n++Bf e.cof)),.pin [(x,.own 0)],.var 46 ((DE e).map .d)]⟩) ?_ ?_
 .exact Zku
 refine Zgn ?_;rintro _ _ ⟨rfl,rfl⟩;refine Kr ?_;refine Bk (σ':=⟨[(0,.ptr 0 0),(3,.ptr 3 0)],[.var 103 [.own 1],.row 5 1 (CR (b++Bm e.n++Bf e.cof++Bf e.g)),.pin [(x,.own 0)],.var 46 ((DE e).map .d)]⟩) ?_ ?_
 .exact Zku
 refine Go ?_;refine AU [0,1] [] [] (K) ZbC rfl rfl ZbF ZbD ZbL ZbB ZbH trivial rfl ?_;rintro _ _ ⟨rfl,rfl⟩;refine Kr ?_;refine Bk (σ':=⟨[(0,.ptr 0 0),(3,.ptr 3 0)],[.var 103 [.own 1],.row 5 1 (CR (b++Bm e.n++Bf e.cof++Bf e.g++BZ e.o)),.pin [(x,.own 0)],.var 46 ((DE e).map .d)]⟩) ?_ ?_
 .exact Zku
 refine Go ?_;refine AU [0,1] [] [] (Y) ZbC rfl rfl ZbF ZbD ZbL ZbB ZbH trivial rfl ?_;rintro _ _ ⟨rfl,rfl⟩;refine Kr ?_;refine Bk (σ':=⟨[(0,.ptr 0 0),(3,.ptr 3 0)],[.var 103 [.own 1],.row 5 1 (CR (b++Bm e.n++Bf e.cof++Bf e.g++BZ e.o++BJ e.c)),.pin [(x,.own 0)],.var 46 ((DE e).map .d)]⟩) ?_ ?_
 .exact Zku
 refine Go ?_;refine AU [0,1] [] [] (n) ZbC rfl rfl ZbF ZbD ZbL ZbB ZbH trivial rfl ?_;rintro _ _ ⟨rfl,rfl⟩;refine Kr ?_;refine Bk (σ':=⟨[(0,.ptr 0 0),(3,.ptr 3 0)],[.var 103 [.own 1],.row 5 1 (CR (b++Bm e.n++Bf e.cof++Bf e.g++BZ e.o++BJ e.c++BJ e.q)),.pin [(x,.own 0)],.var 46 ((DE e).map .d)]⟩) ?_ ?_
 .exact Zku
 refine Go ?_;refine AU [0,1] [] [] (B) ZbC rfl rfl ZbF ZbD ZbL ZbB ZbH trivial rfl ?_;rintro _ _ ⟨rfl,rfl⟩;refine Kr ?_;refine Bk (σ':=⟨[(0,.ptr 0 0),(3,.ptr 3 0)],[.var 103 [.own 1],.row 5 1 (CR (b++Bm e.n++Bf e.cof++Bf e.g++BZ e.o++BJ e.c++BJ e.q++BJ e.s)),.pin [(x,.own 0)],.var 46 ((DE e).map .d)]⟩) ?_ ?_
 .exact Zku
 refine Go ?_;refine AU [0,1] [] [] (f) ZbC rfl rfl ZbF ZbD ZbL ZbB ZbH trivial rfl ?_;rintro _ _ ⟨rfl,rfl⟩;refine Kr ?_;refine Bk (σ':=⟨[(0,.ptr 0 0),(3,.ptr 3 0)],[.var 103 [.own 1],.row 5 1 (CR (b++Bm e.n++Bf e.cof++Bf e.g++BZ e.o++BJ e.c++BJ e.q++BJ e.s++Kg e.r)),.pin [(x,.own 0)],.var 46 ((DE e).map .d)]⟩) ?_ ?_
 .exact Zku
 refine Zgy ?_;refine AU [0,1] [] [] (y) ZbC rfl rfl ZbF ZbD ZbL ZbB ZbH trivial rfl ?_;rintro _ _ ⟨rfl,rfl⟩;refine Kr ?_;refine Bk (σ':=⟨[(0,.ptr 0 0),(3,.ptr 3 0)],[.var 103 [.own 1],.row 5 1 (CR (b++Bm e.n++Bf e.cof++Bf e.g++BZ e.o++BJ e.c++BJ e.q++BJ e.s++Kg e.r++Bt GO e.a)),.pin [(x,.own 0)],.var 46 ((DE e).map .d)]⟩) ?_ ?_
 .exact Zku
 refine Zgy ?_;refine AU [0,1] [] [] (W) ZbC rfl rfl ZbF ZbD ZbL ZbB ZbH trivial rfl ?_;rintro _ _ ⟨rfl,rfl⟩;refine Kr ?_;refine Bk (σ':=⟨[(0,.ptr 0 0),(3,.ptr 3 0)],[.var 103 [.own 1],.row 5 1 (CR (b++Bm e.n++Bf e.cof++Bf e.g++BZ e.o++BJ e.c++BJ e.q++BJ e.s++Kg e.r++Bt GO e.a++Bt Kz e.sq)),.pin [(x,.own 0)],.var 46 ((DE e).map .d)]⟩) ?_ ?_
 .exact Zku
 refine Zgy ?_;refine AU [0,1] [] [] (X) ZbC rfl rfl ZbF ZbD ZbL ZbB ZbH trivial rfl ?_;rintro _ _ ⟨rfl,rfl⟩;refine Kr ?_;refine Bk (σ':=⟨[(0,.ptr 0 0),(3,.ptr 3 0)],[.var 103 [.own 1],.row 5 1 (CR (b++Bm e.n++Bf e.cof++Bf e.g++BZ e.o++BJ e.c++BJ e.q++BJ e.s++Kg e.r++Bt GO e.a++Bt Kz e.sq++Bt Qp e.x)),.pin [(x,.own 0)],.var 46 ((DE e).map .d)]⟩) ?_ ?_
 .exact Zku
 refine Go ?_;refine AU [0,1] [] [] (v) ZbC rfl rfl ZbF ZbD ZbL ZbB ZbH trivial rfl ?_;rintro _ _ ⟨rfl,rfl⟩;refine Kr ?_;refine Bk (σ':=⟨[(0,.ptr 0 0),(3,.ptr 3 0)],[.var 103 [.own 1],.row 5 1 (CR (b++Bm e.n++Bf e.cof++Bf e.g++BZ e.o++BJ e.c++BJ e.q++BJ e.s++Kg e.r++Bt GO e.a++Bt Kz e.sq++Bt Qp e.x++Fb e.b)),.pin [(x,.own 0)],.var 46 ((DE e).map .d)]⟩) ?_ ?_
 .exact Zku
 apply AWl.nil
 first | refine Bs RetsA.none rfl ?_ rfl | refine AW RetsA.none rfl ?_ rfl
 exact⟨rfl,by simp only[KC,Yaf];rfl⟩
theorem A2k(f:Fct)(h:FW f):Wr 48 (AQ (Eb f)) (Er f):=Wr.intro λb E=>by
 simp only[Er,Yaa]at E;have d:=A2o f.k h.k (b) ZbO;have q:=A5Y f.c h.c (b++FV f.k) ZbO;have A:=A7Z f.e h.e (b++FV f.k++IN f.c) ZbO;refine BC func48 rfl (Ag func48 ZbK ZbK) rfl λw x B=>?_;rw[ntmps48];refine ZfL ?_;rintro _ _ ⟨rfl,rfl⟩;refine Kr ?_;refine Bk (σ':=⟨[(0,.ptr 0 0),(3,.ptr 3 0)],[.var 103 [.own 1],.row 5 1 (CR (b++FV f.k)),.pin [(x,.own 0)],.var 48 ((Eb f).map .d)]⟩) ?_ ?_
 .exact Zku
 refine Zgm ?_;rintro _ _ ⟨rfl,rfl⟩;refine Kr ?_;refine Bk (σ':=⟨[(0,.ptr 0 0),(3,.ptr 3 0)],[.var 103 [.own 1],.row 5 1 (CR (b++FV f.k++IN f.c)),.pin [(x,.own 0)],.var 48 ((Eb f).map .d)]⟩) ?_ ?_
 .exact Zku
 refine Zgn ?_;rintro _ _ ⟨rfl,rfl⟩;refine Kr ?_;refine Bk (σ':=⟨[(0,.ptr 0 0),(3,.ptr 3 0)],[.var 103 [.own 1],.row 5 1 (CR (b++FV f.k++IN f.c++KC f.e)),.pin [(x,.own 0)],.var 48 ((Eb f).map .d)]⟩) ?_ ?_
 .exact Zku
 apply AWl.nil
 first | refine Bs RetsA.none rfl ?_ rfl | refine AW RetsA.none rfl ?_ rfl
 exact⟨rfl,by simp only[Er,Yaf];rfl⟩
structure WC(g:Nat)(s s':GS):Prop where
 S:s'.S=s.S
 blk:∀b,b≠g->s'.w.heap[b]? = s.w.heap[b]?
 ty:∃cs fz,s.w.heap[g]? = some (.cells cs 335 fz)/\∀(k:Nat) u,cs[k]? = some u->∃x,u=.int .u32 x
def NW(x:D):Prop:=∀(g:Nat) (s j:GS) (v:Value),WC g s j->x.rel s v->x.rel j v
theorem Aaf(u:Value):NW (ex u):=λ_ _ _ _ _ h=>h
theorem A7Q(h:n<v.length):DM v n∈v:=by
 have:DM v n=v[n]:=by simp[DM,h]
 rw[this];exact Ybm h
theorem Lies.nwB{b o:Nat}(F:WC n s vr)(h:Lies s b o t [ex (.int .u8 a)]):Lies vr b o t [ex (.int .u8 a)]:=by
 obtain⟨f,Q,q,A⟩:=h;obtain⟨K,u,Y,G,I⟩:=A 0 ZbV;have I:u=_:=I
 have E:b≠n:=λe=>by
  subst e;obtain⟨L,M,J,y⟩:=F.ty;rw[q]at J;have:=Yag J;simp only[Obj.cells.injEq]at this;obtain⟨x,C⟩:=y (o+0) u (by rw[<-this.1];exact Y);rw[I]at C;cases C
 refine⟨f,Q,(F.blk b E).trans q,λk B=>?_⟩;obtain rfl:k=0:=by simp at B;omega
 exact⟨by rw[F.S];exact K,u,Y,G,I⟩
theorem Abv{b:List Nat}:NW (Hf t b):=λg s j v F ⟨A, c, q, B, K, Y⟩=>⟨A, c, q, B, K, λd=>by
 obtain⟨E,o,n,G⟩:=Y d;refine⟨E,o,n,λk C=>⟨(G k C).1,?_⟩⟩
 obtain⟨z,u⟩:∃z:Nat,(CR b).getD k []=[ex (.int .u8 (z:Nat))]:=by
  have I:k<b.length:=by rw[Dc]at C;exact C
  refine⟨b[k],?_⟩;rw[Yab,Yac C];simp[CR]
 have f:=(G k C).2;rw[u]at f ⊢;exact f.nwB F⟩
theorem Aae:NW (Fg t [ex (.int .u8 a)]):=λg s j v F ⟨b,o,q,A⟩=>⟨b,o,q,A.nwB F⟩
def wL(l:List Nat):List Value:=l.map λw=>.int .u32 (w:Nat)
structure WRel(base:Nat)(l:List Nat)(s:GS)(v:Value):Prop where
 own:s.w.ownsRow base 335 1 v l.length (wL l)
 sm:BN l
 set:∀b,DQ v=some b->∀k,s.S b k
 al:∀b cs fz,DQ v=some b->s.w.heap[b]? = some (.cells cs 335 fz)->∀(k:Nat) u,cs[k]? = some u->∃x,u=.int .u32 x
theorem WRel.cases{base:Nat}{l:List Nat}{v:Value}(h:WRel base l s v):(v=.slice none 0 0/\l=[])\/∃g cap q,v=.slice (some ⟨g,0,none⟩) l.length cap/\base<=g/\s.w.heap[g]? = some (.cells q 335 (0,0))/\l.length<=cap/\cap<=maxLen/\q.size=cap/\q.toList.take l.length=wL l:=by
 rcases h.own.2 with⟨b,y⟩ | ⟨g,cap,q,b,y,e3,e4,e5,e6,e7⟩
 .exact .inl ⟨b,YaF y⟩
 .exact .inr ⟨g,cap,q,b,y,e3,e4,e5,by omega,by rwa [YbF]at e7⟩
theorem WRel.lt{l:List Nat}{v:Value}(h:WRel n l s v){b:Nat}(E:DQ v=some b):b<s.w.heap.size/\n<=b/\∃f Q,s.w.heap[b]? = some (.cells f 335 Q):=by
 rcases h.cases with⟨q,_⟩ | ⟨g,cap,cur,q,e2,e3,_⟩
 .rw [q]at E;cases E
 .rw [q]at E;cases E;exact⟨Bw e3,e2,_,_,e3⟩
theorem WRel.keep{l:List Nat}{v:Value}(h:WRel n l s v)(E:∀b,DQ v=some b->vr.w.heap[b]? = s.w.heap[b]? /\ ∀k,vr.S b k↔s.S b k):WRel n l vr v:=by
 refine⟨⟨h.own.1,?_⟩,h.sm,λb q k=>((E b q).2 k).2 (h.set b q k),λb f Q q A=>h.al b f Q q ((E b q).1.symm.trans A)⟩;rcases h.own.2 with q | ⟨g,cap,cur,e1,e2,e3,e4⟩
 .exact .inl q
 .exact Zkv
def WOV(base:Nat)(v:Value)(l:List Nat):OD:=⟨λs _=>WRel base l s v,λ_ _ b=>DQ v=some b,λh E=>(WRel.lt h E).1,λh _ E=>⟨WRel.keep h E,λ_ h=>h⟩⟩
def WOD(base:Nat)(l:List Nat):OD:=⟨λs v=>WRel base l s v,λ_ v b=>DQ v=some b,λh E=>(WRel.lt h E).1,λh _ E=>⟨WRel.keep h E,λ_ h=>h⟩⟩
theorem WRel.wD{l:List Nat}{v:Value}(h:WRel n l s v):(Go.Proofs.YtcikkglcoeedlaaGreat.wD l).rel s v:=by
 refine⟨?_,h.sm⟩;rcases h.cases with⟨b,y⟩ | ⟨g,cap,cur,b,y,e3,e4,e5,e6,e7⟩
 .subst y;rw[b];exact slD.nil _ _ _
 .refine ⟨_, cap, by rw [Yap]; exact b, by rw [Yap]; exact e4, by simpa [maxLen] using e5, λd=>⟨g, 0, rfl, λk B=>?_⟩⟩
  rw[Yap]at B;have e:(l.map λx=>[ex (.int .u32 (x:Nat))]).getD k []=[ex (.int .u32 (l[k]:Nat))]:=by simp[B]
  rw[e];refine⟨rfl,cur,(0,0),e3,λj W=>?_⟩;obtain rfl:j=0:=by simp at W;omega
  refine⟨h.set g (by rw[b];rfl) _,.int .u32 (l[k]:Nat),?_,rfl,rfl⟩;have q:(cur.toList.take l.length)[k]? = (wL l)[k]?:=by rw[e7]
  rw[YaK,Yan B]at q;rw[YaG,YbF,Ybi,<-Ycr,q];simp[wL,B]
theorem WOV.nil(base:Nat)(s:GS):WRel base [] s (.slice none 0 0):=⟨⟨rfl,.inl ⟨rfl,rfl⟩⟩,(λx C=>by cases C),λb E=>(by cases E),λb f Q E=>by cases E⟩
theorem A2F{s0:An}(xb:GS.LeX s0.mine s0.g s)(p:s.Ok){t ty bytes base:Nat}(L:P.underlying t=some (.slice 335))(H:Tab P 335 d 1 bytes z)(xq:z=.int .u32 0){l:List Nat}(w:WRel base l s u)(xA:s0.g.w.heap.size<=base)(xi:base<=s0.g.w.heap.size)
  (b o c x:Nat) (C:x<4294967296) (xm:s.w.cell? ⟨b,o,none⟩=some (.int .u32 (x:Nat))) (xj:(l.length+1)*bytes<=140737488355328) (xp:l.length+1<=4611686018427387904) :
  ∃(v:Value) (M:GS),(Builtin.append_ #[t,t] ty #[u,.slice (some ⟨b,o,none⟩) 1 c]).run P s.w=.ok v M.w/\GS.LeX s0.mine s0.g M/\M.Ok/\(GS.Le s M\/∃g,DQ u=some g/\WC g s M)/\WRel base (l++[x]) M v/\(∀b,DQ v=some b->DQ u=some b\/s.w.heap.size<=b):=by
 obtain⟨i,J,S,xt,xv⟩:=H.info;subst xv;have xs:z.cells.size=1:=by rw[xq];rfl
 have xJ:∀(m k:Nat) A,(Builtin.zeroCells z.cells m)[k]? = some A->∃x,A=.int .u32 x:=λm k A r=>by
  have r:=Array.mem_of_getElem? r;rw[xq,Builtin.zeroCells]at r;simp[Value.cells]at r;exact⟨0,by grind⟩
 have xN:∀(k:Nat) A,(wL l)[k]? = some A->∃x,A=.int .u32 x:=λk A r=>by
  obtain⟨y,_,N⟩:=YaA.1 (YaB r);exact⟨_,N.symm⟩
 have xM:∀(k:Nat) A,([.int .u32 ((x:Nat):Int)]:List Value)[k]? = some A->∃x,A=.int .u32 x:=λk A r=>⟨_,Yaz.1 (YaB r)⟩;obtain⟨xe,xo⟩:∃xe:List Value,xe=[.int .u32 (x:Nat)]:=⟨_,rfl⟩;have I:xe.length=1*i.size:=by rw[xo,xt];rfl
 have xB:∀j A,xe[j]? = some A->s.w.cell? ((⟨b,o,none⟩:Addr).add j)=some A:=λj A F=>by
  rw[xo]at F
  match j,F with
  |0,F=>cases F;exact xm
  |j+1,F=>cases F
 have q:∀A∈xe,A.oneCell'=true:=λA r=>by rw[xo]at r;rw[Yaz.1 r];rfl
 have xI:wL (l++[x])=wL l++xe:=by rw[xo,wL,Ych];rfl
 have T:(wL l).length=l.length:=by simp[wL]
 have xw:(l++[x]).length=l.length+1:=by simp
 have xE:BN (l++[x]):=λy N=>by
  rcases YbQ.1 N with h | h
  .exact w.sm y h
  .rw [Yaz.1 h];exact C
 have xD:s0.g.w.heap.size<=s.w.heap.size:=xb.size;have xz:l.length+1<=maxLen:=Zjd
 have xF:∀xu,xu<l.length+1->base<=s.w.heap.size->∃M:GS,M.w=s.w.drew.alloc (.cells ((wL l).toArray++xe.toArray++Builtin.zeroCells z.cells (grownCap s.w (l.length+1) xu 335-(l.length+1))) 335)/\GS.LeX s0.mine s0.g M/\M.Ok/\GS.Le s M/\WRel base (l++[x]) M (.slice (some ⟨s.w.heap.size,0,none⟩) (l.length+1) (grownCap s.w (l.length+1) xu 335)):=by
  intro xu O xg;obtain⟨arr,xr⟩:∃arr,arr=(wL l).toArray++xe.toArray++Builtin.zeroCells z.cells (grownCap s.w (l.length+1) xu 335-(l.length+1)):=⟨_,rfl⟩;rw[<-xr];have xk:=grownCap_ge s.w (l.length+1) xu 335;have xx:grownCap s.w (l.length+1) xu 335<=maxLen:=grownCap_le_maxLen s.w (l.length+1) xu 335 xz;have Q:Ext s.w (s.w.drew.alloc (.cells arr 335)):=(Ext.refl _).drew.alloc _;have xG:(s.w.drew.alloc (.cells arr 335)).heap[s.w.heap.size]? = some (.cells arr 335 (0,0)):=heap_alloc_new s.w.drew _;have U:(s.w.drew.alloc (.cells arr 335)).heap.size=s.w.heap.size+1:=Yec ..;have xa:=FG (s:=s) Q;refine⟨s.grown (s.w.drew.alloc (.cells arr 335)),rfl,xb.trans xa,xa.ok p,xa,⟨⟨by rw[xw];simp[wL],.inr ⟨s.w.heap.size,_,arr,by rw[xw],xg,xG,by rw[xw];exact xk,xx,?_,?_⟩⟩,xE,λb E k=>?_,λb f fz E q k A r=>?_⟩⟩
  .rw [xr]
   simp only[Array.size_append,Ydd,size_zeroCells,xs,T,I,xt];omega
  .rw [xr,xI]
   simp only[Array.toList_append];have:(wL l++xe).length=(l++[x]).length*1:=by rw[Yaa,T,I,xt,xw];omega
   rw[<-this];exact Yep
  .have xc:some s.w.heap.size=some b:=E
   have xc:=Yag xc;subst xc;exact .inr ⟨Yah _,by rw[U];omega⟩
  .have xc:some s.w.heap.size=some b:=E
   have xc:=Yag xc;subst xc;have q:(s.w.drew.alloc (.cells arr 335)).heap[s.w.heap.size]? = _:=q;rw[xG]at q;have:=Yag q;simp only[Obj.cells.injEq]at this;rw[<-this.1,xr]at r;rw[Array.getElem?_append]at r;split at r
   .rw [Array.getElem?_append]at r
    split at r
    .rw [YbP]at r
     exact xN _ A r
    .rw [YbP,xo]at r
     exact xM _ A r
   .exact xJ _ _ A r
 have xg:base<=s.w.heap.size:=by omega
 rcases w.cases with⟨rfl,rfl⟩ | ⟨g,cap,xn,rfl,hbg,hg,hnc,xx,hcs,htake⟩
 .have V:=run_append_nil (P:=P) s.w t ty 335 i z L J S ⟨b, o, none⟩ 1 c xe I xB ZbG ZbG (by have E:=xj; simp only [Ybk, YaG, YcB] at E ⊢; omega)
  obtain⟨M,G,Z,e3,e4,e5⟩:=xF 0 ZbG xg;simp only[Ybk,YaG,Ycs,Array.empty_append,wL,Ycj]at G e5 V ⊢;exact Zhz
 .have xK:=w.al g xn (0,0) rfl hg
  by_cases xC:l.length+1<=cap
  .have xH:l.length*i.size+xe.length<=xn.size:=by rw [I, hcs, xt];omega
   have V:=run_append_room (P:=P) s.w t ty 335 i L J g l.length cap xn hg ⟨b,o,none⟩ 1 c xe I xB q xC xH;obtain⟨W,hW⟩:∃W,W=s.w.setRow g (xn.toList.take (l.length*i.size)++xe++xn.toList.drop (l.length*i.size+xe.length)).toArray:=⟨_,rfl⟩;rw[<-hW]at V;have xl:∀b,b≠g->W.heap[b]? = s.w.heap[b]?:=λb E=>by rw[hW];exact ZjG
   have xG:W.heap[g]? = some (.cells (xn.toList.take (l.length*i.size)++xe++xn.toList.drop (l.length*i.size+xe.length)).toArray 335 (0,0)):=by rw[hW];exact setRow_heap s.w g xn _ _ _ hg
   have U:W.heap.size=s.w.heap.size:=by rw[hW];simp[World.setRow]
   have xf : GS.Ok ⟨s.S, s.tag, W⟩ := ⟨fun b k E => by show b < W.heap.size; rw [U]; exact p.lt b k E, fun b k ⟨f, fz, E⟩ => by
    have E:W.heap[b]? = _:=E;by_cases e:b=g
    .subst e;exact w.set b rfl k
    .exact p.safe b k ⟨f,fz,(xl b e).symm.trans E⟩⟩
   refine⟨_,⟨s.S,s.tag,W⟩,V,⟨by show W.os=_;rw[hW];exact xb.os,by show W.tape=_;rw[hW];exact xb.tape,by show W.output=_;rw[hW];exact xb.output,λk B X=>(xl k ZbG).trans (xb.block k B X),⟨by show _<=W.heap.size;omega,xb.chg.up,λa f R fz E=>?_⟩,xb.old,xb.tag,λ_=>xf⟩,xf,.inr ⟨g,rfl,rfl,xl,_,_,hg,xK⟩,⟨⟨by rw[xw];simp[wL],.inr ⟨g,cap,_,by rw[xw],hbg,xG,by rw[xw];exact xC,xx,?_,?_⟩⟩,xE,λb E k=>?_,λb f fz E q k A r=>?_⟩,λb E=>.inl E⟩
   .obtain ⟨xd,xy,G,Z⟩:=xb.chg.cell a f R fz E
    have:=Bw E;exact⟨xd,xy,(xl a ZbG).trans G,Z⟩
   .simp only[Ydd,Yaa,YaO,YbS,Yee]
    rw[xt]at xH ⊢;omega
   .have K:(l++[x]).length*1=(xn.toList.take (l.length*i.size)++xe).length:=by
     have Y:xn.toList.length=xn.size:=Yee;have n:(xn.toList.take (l.length*i.size)++xe).length=l.length+1:=by rw[Yaa,YaO,I,xt];omega
     rw[n,xw,YbF]
    rw[K];show List.take _ (xn.toList.take (l.length*i.size)++xe++_)=_;rw[Yep,xI,xt,YbF,htake]
   .have xc:some g=some b:=E
    have xc:=Yag xc;subst xc;exact w.set g rfl k
   .have xc:some g=some b:=E
    have xc:=Yag xc;subst xc;have q:W.heap[g]? = _:=q;rw[xG]at q;have:=Yag q;simp only[Obj.cells.injEq]at this;rw[<-this.1,YbP]at r;have r:=YaB r;rw[YbQ,YbQ]at r;rcases r with(r | r) | r
    .obtain ⟨k',xh⟩:=YbL (Ybs r)
     exact Zkw
    .obtain ⟨k',xh⟩:=YbL r
     rw[xo]at xh;exact xM k' A xh
    .obtain ⟨k',xh⟩:=YbL (Yci r)
     exact Zkw
  .have xL:∀j A,(wL l)[j]? = some A->s.w.cell? ((⟨g,0,none⟩:Addr).add j)=some A:=w.own.cells (g:=g) rfl
   have V:=run_append_grow (P:=P) s.w t ty 335 i z L J S ⟨g,0,none⟩ l.length cap (wL l) (by rw[T,xt,YbF]) xL ⟨b,o,none⟩ 1 c xe I xB ZbG ZbG (growslice_fits ZbG xj);obtain⟨M,G,Z,e3,e4,e5⟩:=xF cap ZbG xg;exact Zhz
def AV.nw(id:Nat):AV->Prop
 |.d x=>NW x
 |.ptr i _=>i≠id
 |.own i=>i≠id
 |.fn _ Y=>id∉Y
def Ow.nw(id:Nat):Ow->Prop
 |.dead=>True
 |.var _ cells=>∀I∈cells,I.nw id
 |.row _ _ A=>∀r∈A,∀d∈r,NW d
 |.obj _=>False
 |.pin l=>∀p∈l,p.2.nw id
theorem StI.words{s0:An}{id base:Nat}{l l':List Nat}(h:StI s0 n ⟨vc,H⟩ vj s vi)(xd:H[id]? = some (.obj (WOV base z l)))(hF:∀p∈vc,p.2.nw id)(hM:∀i o,i≠id->H[i]? = some o->o.nw id)(q1:GS.LeX s0.mine s0.g vr)(q2:vr.Ok)(q3:GS.Le s vr\/∃g,DQ z=some g/\WC g s vr)(q4:WRel base l' vr u)(q5:∀b,DQ u=some b->DQ z=some b\/s.w.heap.size<=b) :
  StI s0 n ⟨vc,H.set id (.obj (WOD base l'))⟩ vj vr (λi=>if i=id then u else vi i):=by
 have P:(H.set id (.obj (WOD base l'))).length=H.length:=by simp
 have xi:id<H.length:=Cs xd;have xo:WRel base l s z:=h.hp id _ xd
 have hA:∀c F,c.nw id->AVr H.length vi s c F->AVr H.length (λi=>if i=id then u else vi i) vr c F:=λc F M r=>by
  cases c with
  |d x=>exact q3.elim (λk=>x.st r k.chg) λ⟨g,_,k⟩=>M g s vr F k r
  |ptr i off=>
   have M:i≠id:=M;obtain⟨q,b,A,K⟩:=r;exact⟨q,b,(show(if i=id then u else vi i)=_ by rw[Yai M];exact A),K⟩
  |own i=>
   have M:i≠id:=M;exact⟨r.1,(show F=(if i=id then u else vi i)by rw[Yai M];exact r.2)⟩
  |fn f xb=>
   have M:id∉xb:=M;exact⟨r.1,by rw[r.2,YaY λi J=>(Yai λe=>M (by rw[<-e];exact J):(if i=id then u else vi i)=vi i)]⟩
 have hB:∀b,b<s.w.heap.size->(∀I fz,s.w.heap[b]? ≠ some (.cells I 335 fz))->vr.w.heap[b]? = s.w.heap[b]? /\ ∀k,vr.S b k↔s.S b k:=λb E U=>by
  rcases q3 with k | ⟨g,hg,k⟩
  .exact ⟨k.ext.block E,λj=>⟨k.old b j E,k.up b j⟩⟩
  .obtain ⟨I,fz,e,_⟩:=k.ty
   have xq:b≠g:=λe'=>U I fz (by rw[e'];exact e);exact⟨k.blk b xq,λj=>by rw[k.S]⟩
 have hO:∀i o,i≠id->H[i]? = some o->OwR 0 H.length (λi=>if i=id then u else vi i) vr i o:=λi o J m=>by
  have M:=hM i o J m;have V:=h.hp i o m
  cases o with
  |dead=>trivial
  |var T cells=>
   obtain⟨b,I,q,A,K,Y,Q,Z,v⟩:=V
   obtain⟨G,X⟩:=hB b (Bw K) λxc xp e=>by
    rw[K]at e;have:=Yag e;simp only[Obj.cells.injEq]at this;exact Q this.2.1
   refine⟨b,I,(show(if i=id then u else vi i)=_ by rw[Yai J];exact q),A,G.trans K,Y,Q,λk B=>Z k ((X k).1 B),λk c B=>?_⟩;obtain⟨F,R,h9,xa⟩:=v k c B;exact⟨F,R,h9,hA c F (M c (YaB B)) xa⟩
  |row T S a=>
   obtain⟨w,⟨q,A⟩,K,Y,Q,Z⟩:=V
   have xj:∀b,DQ (vi i)=some b->vr.w.heap[b]? = s.w.heap[b]? /\ ∀k,vr.S b k↔s.S b k:=λb E=>by
    rcases A with⟨G,_⟩ | ⟨g,cap,cur,G,X,e3,e4⟩
    .rw [G]at E;cases E
    .rw [G]at E
     cases E
     exact hB g (Bw e3) λxc xp e=>by
      rw[e3]at e;have:=Yag e;simp only[Obj.cells.injEq]at this;exact K this.2.1
   refine⟨w,⟨q,?_⟩,K,Y,λb E k=>?_,λk B=>⟨(Z k B).1,λj W=>?_⟩⟩
   .have xr:(λi=>if i=id then u else vi i) i=vi i:=Yai J
    rw[xr];rcases A with A | ⟨g,cap,cur,G,X,e3,e4⟩
    .exact .inl A
    .exact .inr ⟨g,cap,cur,G,X,(xj g (by rw[G];rfl)).1.trans e3,e4⟩
   .have E:DQ (if i=id then u else vi i)=some b:=E
    rw[Yai J]at E;exact((xj b E).2 k).trans (Q b E k)
   .obtain ⟨F,R,h9,xa⟩:=(Z k B).2 j W
    have xn:(a.getD k [])∈a:=by
     exact ZhK
    have xh:j<(a.getD k []).length:=by rw[(Z k B).1];exact W
    exact⟨F,R,h9,hA (.d (DM (a.getD k []) j)) F (M _ xn _ (A7Q xh)) xa⟩
  |obj O=>exact M.elim
  |pin l=>exact λp H=>hA p.2 p.1 (M p H) (V p H)
 have xf:∀i o,(H.set id (.obj (WOD base l')))[i]? = some o->(i=id/\o=.obj (WOD base l'))\/(i≠id/\H[i]? = some o):=λi o m=>by
  rw[Ycb]at m;split at m
  .rename_i e
   try rw[Yan ZbG]at m
   exact .inl ⟨e.symm,(Yag m).symm⟩
  .rename_i e
   exact .inr ⟨λe'=>e e'.symm,m⟩
 have xl:∀i o b,i≠id->H[i]? = some o->OwB vr (if i=id then u else vi i) o b->OwB s (vi i) o b:=λi o b J m E=>by
  rw[Yai J]at E
  cases o with
  |obj O=>exact(hM i _ J m).elim
  |_=>exact E
 refine⟨q1,q2,λt c L=>?_,h.sz,h.df,λi o m=>?_,λi j x y xe C N b xk xg=>?_,λi o b m E=>?_⟩
 .rw [show(⟨vc,H.set id (.obj (WOD base l'))⟩:AS).hp.length=H.length from P]
  exact hA c _ (hF (t,c) (Ff L)) (h.fr t c L)
 .rw [show(⟨vc,H.set id (.obj (WOD base l'))⟩:AS).hp.length=H.length from P]
  rcases xf i o m with⟨rfl,rfl⟩ | ⟨J,m⟩
  .show WRel base l' vr (if i=i then u else vi i)
   rw[Yan rfl];exact q4
  .exact hO i o J m
 .rcases xf i x C with⟨rfl,rfl⟩ | ⟨J,hx'⟩<;>rcases xf j y N with⟨rfl,rfl⟩ | ⟨W,hy'⟩
  .exact xe rfl
  .have xk:DQ (if i=i then u else vi i)=some b:=xk
   rw[Yan rfl]at xk;have xm:=xl j y b W hy' xg;rcases q5 b xk with q | q
   .exact h.sep i j _ y xe xd hy' b q xm
   .have:=(h.hp j y hy').blk_lt0 xm
    omega
  .have xg:DQ (if j=j then u else vi j)=some b:=xg
   rw[Yan rfl]at xg;have xm:=xl i x b J hx' xk;rcases q5 b xg with q | q
   .exact h.sep i j x _ xe hx' xd b xm q
   .have:=(h.hp i x hx').blk_lt0 xm
    omega
  .exact h.sep i j x y xe hx' hy' b (xl i x b J hx' xk) (xl j y b W hy' xg)
 .rcases xf i o m with⟨rfl,rfl⟩ | ⟨J,m⟩
  .have E:DQ (if i=i then u else vi i)=some b:=E
   rw[Yan rfl]at E;rcases q5 b E with q | q
   .exact h.own i _ b xd q
   .exact .inr (Yat h.le.size q)
  .exact h.own i o b m (xl i o b J m E)
theorem A4s{s0:An}{o:Oper}{id base m bytes b0 x:Nat}{l:List Nat}{S O:Operand}(E:o.op=.call { callee:=.builtin .append,args:=#[S,O],argTypes:=#[t,t] })(h:StI s0 n ⟨vc,H⟩ vj s vi)(a:H[id]? = some (.obj (WOV base u l)))(hF:∀p∈vc,p.2.nw id)(J:∀i o,i≠id->H[i]? = some o->o.nw id)(xb:s0.g.w.heap.size<=base)(g:base<=s0.g.w.heap.size)(C:vj.eval S=u)(N:(slD U 1 [[ex (.int .u32 (x:Nat))]]).rel s (vj.eval O))(Z:x<4294967296)(L:Tab P t (.slice 335) m b0 z)(F:Tab P 335 d 1 bytes uk)(r:uk=.int .u32 0)(R:(l.length+1)*bytes<=140737488355328)(k:l.length+1<=4611686018427387904) :
  RegG.OpStep P o vj.eval s λq j=>∃I,StI s0 n ⟨vc,H.set id (.obj (WOD base (l++[x])))⟩ vj j I/\AVr H.length I j (.own id) q:=by
 obtain⟨A,c,y,f,G,W⟩:=N;obtain⟨b,p,rfl,X⟩:=W ZbV;obtain⟨_,v⟩:=X 0 ZbV;obtain⟨q,Q,_,e⟩:=v.cell (k:=0) ZbV;have e:q=_:=e;subst e;obtain⟨B,j,V,M,K,Y,T,w⟩:=A2F (P:=P) (t:=t) (ty:=o.type) h.le h.ok L.und F r (h.hp id _ a) xb g b p c x Z (by simpa using Q) R k
 have xa:(execOp vj.eval o).run P s.w=.ok (.value B) j.w:=by
  simp only[execOp,E,resolve,invoke,builtin,Sem.run_bind,Sem.run_pure,Result.andThen_ok,YcK,Ybc,Ycj,C,y];simp only[Yay,Ybk,YaG]at V ⊢;rw[V];rfl
 refine Jf xa j rfl ⟨_,h.words a hF J M K Y T w,Cs a,(Yan rfl).symm⟩
def AllNw(id c:Nat)(M:List Nat):Nat->List AV->Prop
 |_,[]=>True
 |i,r::G=>(Nat.beq i c=true\/M.contains i=true\/r.nw id)/\AllNw id c M (i+1) G
theorem AllNw.nil{id c i:Nat}{M:List Nat}:AllNw id c M i []:=trivial
theorem AllNw.c{id c i:Nat}{M:List Nat}{r:AV}(h:Nat.beq i c=true)(Z:AllNw id c M (i+1) R):AllNw id c M i (r::R):=⟨.inl h,Z⟩
theorem AllNw.l{id c i:Nat}{M:List Nat}{r:AV}(h:M.contains i=true)(Z:AllNw id c M (i+1) R):AllNw id c M i (r::R):=⟨.inr (.inl h),Z⟩
theorem AllNw.x{id c i:Nat}{M:List Nat}{v:Value}(Z:AllNw id c M (i+1) R):AllNw id c M i (.d (ex v)::R):=⟨.inr (.inr (Aaf v)),Z⟩
theorem AllNw.b{id c i:Nat}{M:List Nat}{T:TypeId}{l:List Nat}(Z:AllNw id c M (i+1) R):AllNw id c M i (.d (Hf T l)::R):=⟨.inr (.inr Abv),Z⟩
theorem AllNw.e{id c i:Nat}{M:List Nat}{T:TypeId}{z:Int}(Z:AllNw id c M (i+1) R):AllNw id c M i (.d (Fg T [ex (.int .u8 z)])::R):=⟨.inr (.inr Aae),Z⟩
theorem AllNw.p{id c i j off:Nat}{M:List Nat}(h:Nat.beq j id=false)(Z:AllNw id c M (i+1) R):AllNw id c M i (.ptr j off::R):=⟨.inr (.inr (YaI h)),Z⟩
theorem AllNw.o{id c i j:Nat}{M:List Nat}(h:Nat.beq j id=false)(Z:AllNw id c M (i+1) R):AllNw id c M i (.own j::R):=⟨.inr (.inr (YaI h)),Z⟩
theorem AllNw.get{id c:Nat}{M:List Nat}:∀{G:List AV} {j:Nat},AllNw id c M j G->∀(i:Nat) r,G[i]? = some r->j+i≠c->j+i∉M->r.nw id
 |[],_,_,_,_,h,_,_=>by cases h
 |x::G,j,⟨q,_⟩,0,r,h,F,I=>by
  cases h;rcases q with q | q | q
  .exact absurd (Yao q) F
  .exact absurd ZdS I
  .exact q
 |x::G,j,⟨_,A⟩,i+1,r,h,F,I=>AllNw.get A i r Zdf Zfa (by rw[YbT,Yda 1];exact I)
def MemNw(id:Nat):Nat->List Ow->Prop
 |_,[]=>True
 |i,o::G=>(Nat.beq i id=true\/o.nw id)/\MemNw id (i+1) G
theorem MemNw.nil{id i:Nat}:MemNw id i []:=trivial
theorem A8n{id i:Nat}{o:Ow}(h:Nat.beq i id=true)(Z:MemNw id (i+1) H):MemNw id i (o::H):=⟨.inl h,Z⟩
theorem A8m{id i T:Nat}(h:AllNw id R.length [] 0 R)(Z:MemNw id (i+1) H):MemNw id i (.var T R::H):=⟨.inr λI O=>by
 obtain⟨k,B⟩:=YbL O;have:=(Yae.1 B).1;exact h.get k I B ZbG ZbV,Z⟩
theorem MemNw.p{id i:Nat}{l:List (Value×AV)}(h:AllNw id l.length [] 0 (l.map (·.2)))(Z:MemNw id (i+1) H):MemNw id i (.pin l::H):=⟨.inr λp q=>by
 obtain⟨k,B⟩:=YbL q;have:=(Yae.1 B).1;exact h.get k p.2 (by rw[Yau,B];rfl) ZbG ZbV,Z⟩
theorem MemNw.get{id:Nat}:∀{G:List Ow} {j:Nat},MemNw id j G->∀(i:Nat) o,G[i]? = some o->j+i≠id->o.nw id
 |[],_,_,_,_,h,_=>by cases h
 |x::B,j,⟨q,_⟩,0,r,h,F=>by
  cases h;exact q.elim (λq=>absurd (Yao q) F) λh=>h
 |x::B,j,⟨_,A⟩,i+1,r,h,F=>MemNw.get A i r Zdf Zfa
theorem DTurn.words{s0:An}{id base m bytes y x c:Nat}{l:List Nat}{Y W:Operand}{v:Option Tmp}{ty:TypeId}{f:String}{g:Array Edge}{w:Option (Nat×Bool)}(V:H[id]? = some (.obj (WOV base u l)))
  (E:DT ⟨vc,EU H id (.obj (WOV base u l)) (.obj (WOD base (l++[x]))) false⟩ (R.map HR.av) vw Y=.d (ex u)) (N:DT ⟨vc,EU H id (.obj (WOV base u l)) (.obj (WOD base (l++[x]))) false⟩ (R.map HR.av) vw W=.d (slD U 1 [[ex (.int .u32 (x:Nat))]]))
  (L:Tab P t (.slice 335) m y z) (Q:Tab P 335 d 1 bytes uk) (r:uk=.int .u32 0) (C:AllNw id c h 0 R) (I:AllNw id vc.length [] 0 (vc.map (·.2))) (S:MemNw id 0 H) (xa:s0.g.w.heap.size=base) (b:x<4294967296) (e:(l.length+1)*bytes<=140737488355328) (j:l.length+1<=4611686018427387904) :
  DTurn P s0 n vc H id (.obj (WOV base u l)) (.obj (WOD base (l++[x]))) R h c vw ⟨v,.call { callee:=.builtin .append,args:=#[Y,W],argTypes:=#[t,t] },ty,f,g,w⟩ (.own id):=λF hF s X a O T=>by
 have xd:EU H id (.obj (WOV base u l)) (.obj (WOD base (l++[x]))) false=H:=by
  unfold EU;apply Ycd;intro i;rw[Ycb];split
  .rename_i q
   subst q;rw[V]
   try rw[Yan (Cs V)]
   rfl
  .rfl
 have xb:=T Y Zde;have xc:=T W Zde;rw[E]at xb;rw[N]at xc;rw[xd]at O
 have:=A4s (P:=P) (o:=⟨v,.call { callee:=.builtin .append,args:=#[Y,W],argTypes:=#[t,t] },ty,f,g,w⟩) rfl O V (λp M=>by
  rcases hF p M with⟨i,A,B,K⟩ | q
  .exact C.get i p.2 K ZbG (by rw[YaG];exact B)
  .obtain ⟨k,Z⟩:=YbL q
   have:=(Yae.1 Z).1;exact I.get k p.2 (by rw[Yau,Z];rfl) ZbG ZbV) (λi o J G=>S.get i o G ZbG) ZbG ZbG (exD xb) xc b L Q r e j
 exact this
theorem A1D{s0:An}(base:Nat)(Z:Gd H (.obj (WOV base (.slice none 0 0) []))=some vA)(k:AWp P s0 n vp vl ⟨vc,vA⟩):AWp P s0 n vp vl ⟨vc,H⟩:=by
 rw[Fe Z]at k;refine⟨λa w ⟨s,X,c,q⟩=>?_⟩;have:=q.new (GS.Le.refl s) (dst:=none) (v:=undef) (u:=undef) (r:=.d CC) (ow:=.obj (WOV base (.slice none 0 0) [])) (λd e=>by cases e) trivial (WOV.nil base s) (λb E=>by cases E);exact ZjZ
theorem A4f{s0:An}(id base:Nat)(l:List Nat)(A:H[id]? = some (.obj (WOD base l)))(k:∀v,AWp P s0 n vp vl ⟨vc.map λp=>(p.1,down id (ex v) p.2),(H.map (Ow.mapA (down id (ex v)))).set id (.obj (WOV base v l))⟩):AWp P s0 n vp vl ⟨vc,H⟩:=by
 refine⟨λa w ⟨s,X,c,q⟩=>(k (X id)).run a w ⟨s,X,c,?_⟩⟩
 exact q.upd (s':=s) q.le q.ok (GS.Chg.refl s) (id:=id) (o':=.obj (WOV base (X id) l)) (ρ':=X) (f:=down id (ex (X id))) A (λb _ _=>⟨rfl,λ_=>YdG⟩) (λ_ _=>rfl) (show WRel base l s (X id)from q.hp id _ A) (λb E=>.inl E) λI v O=>Zbi
theorem AVle.words{m id base:Nat}{l:List Nat}(a:H[id]? = some (.obj (WOV base z l))):AVle H m (.d (ex z)) (.d (wD l)):=λb X s u q S=>by
 have S:u=z:=S;rw[S];exact WRel.wD (q id _ a)
theorem A8k{i base:Nat}{l:List Nat}(h:H[i]? = some (.obj (WOD base l))):One H (.own i):=λb X s v B ⟨_,r⟩=>by
 have q:WRel base l s (X i):=B i _ h;rcases q.cases with⟨A,_⟩ | ⟨g,cap,cur,A,_⟩<;>rw[r,A]<;>rfl
def RowR(T q:Nat)(A:List (List D))(s:GS)(v:Value):Prop:=∃h:List Value,s.w.ownsRow 0 T q v A.length h/\T≠335/\0<q/\(∀b,DQ v=some b->∀k,s.S b k↔k<A.length*q)/\∀k,k<A.length->(A.getD k []).length=q/\∀j,j<q->∃u,h[k*q+j]? = some u/\u.oneCell'=true/\(DM (A.getD k []) j).rel s u
theorem RowR.lt{T sz:Nat}{v:Value}(h:RowR T sz vm s v){b:Nat}(E:DQ v=some b):b<s.w.heap.size:=by
 obtain⟨B,⟨_,A⟩,_⟩:=h;rcases A with⟨q,_⟩ | ⟨g,cap,cur,q,e2,e3,e4⟩
 .rw [q]at E;cases E
 .rw [q]at E;cases E;exact Bw e3
theorem RowR.keep{T sz:Nat}{v:Value}(h:RowR T sz vm s v)(F:GS.Chg s vr)(E:∀b,DQ v=some b->vr.w.heap[b]? = s.w.heap[b]? /\ ∀k,vr.S b k↔s.S b k):RowR T sz vm vr v:=by
 obtain⟨G,⟨q,A⟩,K,Y,n,C⟩:=h;refine⟨G,⟨q,?_⟩,K,Y,λb f k=>((E b f).2 k).trans (n b f k),λk B=>⟨(C k B).1,λj W=>?_⟩⟩
 .rcases A with A | ⟨g,cap,cur,e1,e2,e3,e4⟩
  .exact .inl A
  .exact Zkv
 .obtain ⟨u,I,J,L⟩:=(C k B).2 j W
  exact⟨u,I,J,(DM _ j).st L F⟩
def Mc(v:Value)(T q:Nat)(A:List (List D)):OD:=⟨λs _=>RowR T q A s v,λ_ _ b=>DQ v=some b,λh E=>RowR.lt h E,λh F E=>⟨RowR.keep h F E,λ_ h=>h⟩⟩
theorem RowR.rel{T q:Nat}{v:Value}(h:RowR T q vm s v):(slD T q vm).rel s v:=by
 refine Ex (hp:=[.row T q vm]) (av:=.own 0) (ρ:=λ_=>v) (base:=0) (λi o m=>?_) ⟨YcI,rfl⟩ rfl
 match i,m with
 |0,m=>cases m;exact h
theorem AVle.rows{hp:List Ow}{m id T sz:Nat}{v:Value}{rows:List (List D)}(a:hp[id]? = some (.obj (Mc v T sz rows))):AVle hp m (.d (ex v)) (.d (slD T sz rows)):=λb X s u q S=>by
 have S:u=v:=S;rw[S];exact RowR.rel (q id _ a)
theorem Fd{s0:An}{c:Code}(T A:Nat)(i:T≠335)(q:0<A)(Z:Gd H (.obj (Mc (.slice none 0 0) T A []))=some vA)(k:AWp P s0 n c vl ⟨vc,vA⟩):AWp P s0 n c vl ⟨vc,H⟩:=by
 rw[Fe Z]at k;refine⟨λa w ⟨s,X,F,C⟩=>?_⟩;have:=C.new (GS.Le.refl s) (dst:=none) (v:=undef) (u:=undef) (r:=.d CC) (ow:=.obj (Mc (.slice none 0 0) T A [])) (λd e=>by cases e) trivial ⟨[],⟨by simp,.inl ⟨rfl,rfl⟩⟩,i,q,λb E=>(by cases E),λk B=>absurd B ZbV⟩ (λb E=>by cases E);exact k.run a w ⟨s,_,F,this⟩
theorem FR{s0:An}{c:Code}(id T q:Nat)(B:List (List D))(F:H[id]? = some (.row T q B))(k:∀v,AWp P s0 n c vl ⟨vc.map λp=>(p.1,down id (ex v) p.2),(H.map (Ow.mapA (down id (ex v)))).set id (.obj (Mc v T q B))⟩):AWp P s0 n c vl ⟨vc,H⟩:=by
 refine⟨λa w ⟨s,X,C,A⟩=>(k (X id)).run a w ⟨s,X,C,?_⟩⟩
 exact A.upd (s':=s) A.le A.ok (GS.Chg.refl s) (id:=id) (o':=.obj (Mc (X id) T q B)) (ρ':=X) (f:=down id (ex (X id))) F (λb _ _=>⟨rfl,λ_=>YdG⟩) (λ_ _=>rfl) (show RowR T q B s (X id)from A.hp id _ F) (λb E=>.inl E) λI v O=>Zbi
def Vc(id:Nat):AV->AV
 |.d x=>.d x
 |.ptr i off=>bif Nat.beq i id then .d CC else .ptr i off
 |.own i=>bif Nat.beq i id then .d CC else .own i
 |.fn f Y=>bif Y.contains id then .d CC else .fn f Y
def AV.ni(id:Nat):AV->Bool
 |.d _=>true
 |.ptr i _=>!Nat.beq i id
 |.own i=>!Nat.beq i id
 |.fn _ Y=>!Y.contains id
theorem ZF:∀{I:AV},I.ni n=true->Vc n I=I
 |.d _,_=>rfl
 |.ptr i _,h=>Zbj
 |.own i,h=>Zbj
 |.fn _ Y,h=>by
  have h:(!Y.contains n)=true:=h;have h:Y.contains n=false:=by simpa using h
  simp only[Vc,h,cond_false]
theorem A7g{s0:An}{o:Oper}{t T T2 r bytes id m b:Nat}{ox oy:Operand}(R:o.op=.call { callee:=.builtin .append,args:=#[ox,oy],argTypes:=#[t,t] })(hst:StI s0 n ⟨vc,H⟩ vj s vi)(hh:H[id]? = some (.obj (Mc uk T r vm)))(hF:vc.map (λp=>(p.1,Vc id p.2))=vc)(hM:H.map (Ow.mapA (Vc id))=H)(S:vj.eval ox=uk)(O:(slD T2 r ud).rel s (vj.eval oy))(L:Tab P t (.slice T) m b u)(hT:Tab P T d r bytes z)(xm:z.cells.size=r)(xh:(vm.length+ud.length)*bytes<=140737488355328)(xl:vm.length+ud.length<=4611686018427387904) :
  RegG.OpStep P o vj.eval s λG a=>∃xa,StI s0 n ⟨vc,H.set id (.row T r (vm++ud))⟩ vj a xa/\AVr H.length xa a (.own id) G:=by
 have xq:RowR T r vm s uk:=hst.hp id _ hh;obtain⟨xs,q,K,Y,l,w⟩:=xq;obtain⟨A,c,y,h7,h8,h9⟩:=O;have xg:id<H.length:=Cs hh
 have xv:∀(v':Value) (a:GS) (xt:List Value),(execOp vj.eval o).run P s.w=.ok (.value v') a.w->GS.LeX s0.mine s0.g a->a.Ok->GS.Chg s a->a.w.ownsRow 0 T r v' (vm.length+ud.length) xt->(∀b,DQ v'=some b->∀k,a.S b k↔k<(vm.length+ud.length)*r) ->
   (∀b,b<s.w.heap.size->DQ uk≠some b->a.w.heap[b]? = s.w.heap[b]? /\ ∀k,a.S b k↔s.S b k)->(∀b,DQ v'=some b->DQ uk=some b\/s.w.heap.size<=b) ->
   (∀k,k<(vm++ud).length->((vm++ud).getD k []).length=r/\∀j,j<r->∃G,xt[k*r+j]? = some G/\G.oneCell'=true/\(DM ((vm++ud).getD k []) j).rel a G) ->
   RegG.OpStep P o vj.eval s λG a=>∃xa,StI s0 n ⟨vc,H.set id (.row T r (vm++ud))⟩ vj a xa/\AVr H.length xa a (.own id) G:=by
  intro v' a xt xd q1 q2 q3 q4 q5 q6 q7 q8;have I:(vm++ud).length=vm.length+ud.length:=Yaa
  have xj:=hst.upd (s':=a) (o':=.row T r (vm++ud)) (ρ':=λi=>if i=id then v' else vi i) (f:=Vc id) q1 q2 q3 hh q6 (λj W=>Yai W)
   ⟨xt, by simp only [Yan]; rw [I]; exact q4, K, Y, fun b F k => by simp only [Yan] at F; rw [I]; exact q5 b F k, q8⟩ (fun b F => by replace F : DQ (if id = id then v' else vi id) = some b := F; rw [Yan rfl] at F; exact q7 b F) fun U G xf => by
    cases U with
    |d x=>exact x.st xf q3
    |ptr i off=>
     obtain⟨p1,bb,p2,p3⟩:=xf;show AVr H.length _ a (bif Nat.beq i id then .d CC else .ptr i off) G
     cases F:Nat.beq i id with
     |true=>trivial
     |false=>
      have e:i≠id:=YaI F;refine⟨p1,bb,?_,p3⟩;show(if i=id then v' else vi i)=_;rw[Yai e];exact p2
    |own j=>
     obtain⟨p1,p2⟩:=xf;show AVr H.length _ a (bif Nat.beq j id then .d CC else .own j) G
     cases F:Nat.beq j id with
     |true=>trivial
     |false=>
      have e:j≠id:=YaI F;exact⟨p1,p2.trans (Yai e).symm⟩
    |fn f xc=>
     obtain⟨p1,p2⟩:=xf;show AVr H.length _ a (bif xc.contains id then .d CC else .fn f xc) G
     cases F:xc.contains id with
     |true=>trivial
     |false=>
      have Z:id∉xc:=λh=>by rw[Ybu.2 h]at F;cases F
      exact⟨p1,by rw[p2,YaY λi J=>(Yai λe=>Z (by rw[<-e];exact J):(if i=id then v' else vi i)=vi i)]⟩
  have xk:StI s0 n ⟨vc,H.set id (.row T r (vm++ud))⟩ vj a (λi=>if i=id then v' else vi i):=by
   have:=xj;simp only[hF,hM]at this;exact this
  exact Jf xd a rfl ⟨_,xk,xg,(Yan rfl).symm⟩
 have xr:∀v' M,(Builtin.append_ #[t,t] o.type #[uk,vj.eval oy]).run P s.w=.ok v' M->(execOp vj.eval o).run P s.w=.ok (.value v') M:=λv' M V=>by
  simp only[execOp,R,resolve,invoke,builtin,Sem.run_bind,Sem.run_pure,Result.andThen_ok,YcK,Ybc,Ycj,S,V]
 rcases Yax ud.length with X | X
 .obtain rfl:ud=[]:=YaF X
  obtain⟨i,J,v,xn,xo⟩:=hT.info
  have xw:∃B N C,uk=.slice B N C/\N<=C:=Zax
  obtain⟨B,N,C,w1,w2⟩:=xw
  have V:(Builtin.append_ #[t,t] o.type #[uk,vj.eval oy]).run P s.w=.ok uk s.w:=by
   rw[y,w1]
   cases A with
   |none=>exact run_append_nothing s.w _ _ _ _ i L.und J _ _ _ w2 _ (Src.ofNil s.w L.und c)
   |some ad=>exact run_append_nothing s.w _ _ _ _ i L.und J _ _ _ w2 _ (Src.ofSlice s.w L.und _ _ _ [] ZbV ZbV ZbV)
  refine xv uk s xs (xr _ _ V) hst.le hst.ok (GS.Chg.refl s) ZdS (λb F k=>by simpa using l b F k) (λb F _=>⟨rfl,λ_=>YdG⟩) (λb F=>.inl F) λk E=>?_;rw[YbC]at E ⊢;exact⟨(w k E).1,(w k E).2⟩
 .obtain ⟨g,p,e3,xb⟩:=h9 X
  subst e3;obtain⟨xe,n1,n2,n3,n4⟩:=QM xb;obtain⟨v',a,V,q1,q2,q3,q4,q5,q6,q7⟩:=UK (P:=P) (ty:=o.type) hst.le hst.ok L.und hT xm K Y q (λb F=>hst.own id _ b hh F) l g p ud.length c xe n1 X n2 n3 xh xl;refine xv v' a (xs++xe) (xr _ _ (by rw[y];exact V)) q1 q2 q3 q4 q5 q6 q7 λk E=>?_;rw[Yaa]at E;rw[KM];have xp:xs.length=vm.length*r:=q.1;split
  .rename_i Q
   refine⟨(w k Q).1,λj W=>?_⟩;obtain⟨G,r1,xu,r3⟩:=(w k Q).2 j W;refine⟨G,?_,xu,(DM _ j).st r3 q3⟩;rw[Yav]
   .exact r1
   .rw [xp]
    have:(k+1)*r<=vm.length*r:=YaC r Q;exact Zhf
  .rename_i xi
   refine⟨(xb (k-vm.length) ZbG).1,λj W=>?_⟩;obtain⟨G,r1,xu,r3⟩:=n4 (k-vm.length) j ZbG W;refine⟨G,?_,xu,(DM _ j).st r3 q3⟩;have e3:k*r=vm.length*r+(k-vm.length)*r:=ZiC
   rw[Yal ZbG,xp,<-r1];exact Zhe
theorem DTurn.rows{s0:An}{hp:List Ow}{t T f sz bytes id m b c:Nat}{z I v:Value}{rows S:List (List D)}{W V:Operand}{M:List Nat}{dd:Option Tmp}{ty:TypeId}{ps:String}{af:Array Edge}{gd:Option (Nat×Bool)}(Q:hp[id]? = some (.obj (Mc v T sz rows)))
  (C:DT ⟨vc,EU hp id (.obj (Mc v T sz rows)) (.row T sz (rows++S)) false⟩ (R.map HR.av) vw W=.d (ex v)) (N:DT ⟨vc,EU hp id (.obj (Mc v T sz rows)) (.row T sz (rows++S)) false⟩ (R.map HR.av) vw V=.d (slD f sz S))
  (L:Tab P t (.slice T) m b I) (J:Tab P T d sz bytes z) (g:z.cells.size=sz) (B:(R.zipIdx.all λp=>Nat.beq p.2 c||M.contains p.2||p.1.ni id)=true) (E:(vc.all λp=>p.2.ni id)=true) (O:hp.map (Ow.mapA (Vc id))=hp) (Z:(rows.length+S.length)*bytes<=140737488355328) (e:rows.length+S.length<=4611686018427387904) :
  DTurn P s0 n vc hp id (.obj (Mc v T sz rows)) (.row T sz (rows++S)) R M c vw ⟨dd,.call { callee:=.builtin .append,args:=#[W,V],argTypes:=#[t,t] },ty,ps,af,gd⟩ (.own id):=λF hF s X a G j=>by
 have o:EU hp id (.obj (Mc v T sz rows)) (.row T sz (rows++S)) false=hp:=by
  unfold EU;apply Ycd;intro i;rw[Ycb];split
  .rename_i h
   subst h;rw[Q]
   try rw[Yan (Cs Q)]
   rfl
  .rfl
 have k:=j W Zde;have l:=j V Zde;rw[C]at k;rw[N]at l;rw[o]at G;refine A7g (P:=P) (o:=⟨dd,.call { callee:=.builtin .append,args:=#[W,V],argTypes:=#[t,t] },ty,ps,af,gd⟩) rfl G Q ?_ O (exD k) l L J g Z e
 have:∀p∈F,Vc id p.2=p.2:=λp H=>by
  rcases hF p H with⟨i,q,A,K⟩ | h
  .have:=Yaj.1 B (p.2, i) (by rw [YbN]; exact K)
   simp only[YaZ]at this;rcases this with(Y | Y) | Y
   .exact absurd (Yao Y) q
   .exact absurd (Ybu.1 Y) A
   .exact ZF Y
  .exact ZF (Yaj.1 E p h)
 conv=>rhs;rw[<-Yey F]
 exact YaY λp H=>by rw[this p H];rfl
theorem w32{n:Int}(h:0<=n/\n<=4294967295):IntKind.u32.wrap n=n:=by
 rw[IntKind.wrap_u32];omega
theorem RU{n m j:Nat}(q:n<2^j)(x:m*2^j+n<4294967296):IntKind.u32.wrap ((BitVec.ofInt IntKind.u32.bits ((m*2^j:Nat):Int) ||| BitVec.ofInt IntKind.u32.bits ((n:Nat):Int)).toNat)=((m*2^j+n:Nat):Int):=by
 have b:(BitVec.ofInt IntKind.u32.bits ((n:Nat):Int))=BitVec.ofNat 32 n:=rfl;have y:(BitVec.ofInt IntKind.u32.bits ((m*2^j:Nat):Int))=BitVec.ofNat 32 (m*2^j):=rfl;rw[b,y];show IntKind.u32.wrap (((BitVec.ofNat 32 (m*2^j) ||| BitVec.ofNat 32 n).toNat:Nat):Int)=_;rw[Yea,Ycy,Ycy,YaS ZbG,YaS ZbG];have h:=YcA q m;rw[YdP]at h;rw[<-h,w32 ZbG]
theorem A9B{l:List Nat}(h:Qq l=none):Sn G0 l=none:=Rd.none h
theorem A9A{l r:List Nat}(h:Qq l=some (n,r)):Sn G0 l=if n/2<=r.length/4 then(Cq KF (n/2) r).map λy=>((decide (n%2=1),y.1),y.2)else none:=by
 have h:G0.nat l=some (n,r):=h;unfold Sn;rw[Rd.some h];unfold KZ Rd.bind;by_cases q:n/2<=r.length/4
 .simp only[q,decide_true,if_true]
  cases Cq KF (n/2) r<;>rfl
 .simp [q]
theorem A0v:Rdr 307 (λx:Bool×List Nat=>AQ (inC x)) (Sn G0):=Rdr.intro λT l I=>by
 have F:=DJ T l I;refine Bu func307 rfl (Ag func307 ZbK ZbK) rfl λC Q=>?_;rw[ntmps307];refine Go ?_;refine Bd [0] [] [] (F) (BX rfl) (λN=>(by repeat (first | exact AN (A9B N) | apply AH | apply PanQ.block | apply PanQ.loop):PanQ _ _) _) rfl rfl ZbF ZbD ZbL ZbB ZbH trivial rfl ?_;rintro _ _ ⟨n,r,q,a,rfl,rfl⟩;refine Kr ?_;have xk:=FM q;have M:=A9A q;have L:=a.len;obtain⟨m,E⟩:∃m,m=n/2:=⟨_,rfl⟩;rw[<-E]at M;refine Wa<|Y0<|Ah<|Y1<|Wm ?_;refine Wq (GU (r:=((m:Nat):Int)) (ao rfl) (ao rfl) ZbL ZcQ) ?_;refine Wm ?_;refine Wq (Ca (ao rfl)) ?_;refine Wq AC ?_;refine Wq Cn ?_;refine Wq (DA (ao rfl) (Aa rfl)) ?_;refine Wq (AP (r:=((r.length:Nat):Int)) (ao rfl) (Aa rfl) (Aa rfl) (ES ZbG)) ?_;refine Wq (GU (r:=((r.length/4:Nat):Int)) (ao rfl) (ao rfl) ZbL ZcQ) ?_;refine Wq Ci ?_;apply Y0
 by_cases d:m<=r.length/4
 .rw [Yan d]at M
  refine HN (ao rfl) (Yad ZbG) ?_;refine Ys<|Y1<|Wm ?_;refine Wq (Mf (r:=((n%2:Nat):Int)) (ao rfl) (ao rfl) ZbL Zdd) ?_;refine Wq Ci ?_;(refine Df rfl rfl ?_;(refine AI (Aa rfl) rfl rfl rfl ?_;(repeat ((first | refine⟨_,Az (ao rfl),?_⟩ | refine⟨_,Po rfl,?_⟩);refine⟨_,rfl,?_⟩));refine⟨_,rfl,?_⟩));refine Al ?_;refine Sf ?_;refine Y0<|Ah<|Y1<|Wm ?_;refine Wq (GU (r:=((m:Nat):Int)) (ao rfl) (ao rfl) ZbL ZcQ) ?_;refine Wm<|Y0<|AWp.block ?_
  refine A1D C.g.w.heap.size rfl ?_;refine AF (λA c=>∃k ws J v,k<=m/\A=m-k/\ws.length=k/\Byt J/\(Cq KF m r=(Cq KF (m-k) J).map λy=>(ws++y.1,y.2))/\4*(m-k)<=J.length/\c=⟨[(0,.ptr 0 0),(2,.ptr 2 0),(4,.ptr 3 0),(24,.d (ex (.int .u64 (m:Nat)))),(25,.d (ex (.int .u64 (k:Nat))))],[.var 92 [.d (Hf T J)],.pin [(Q,.own 0)],.var 109 [.d (ex (.bool false)),.d (ex (.slice none 0 0))],.var 109 [.d (ex (.bool (((n%2:Nat):Int)==1))),.d (ex v)],.obj (WOV C.g.w.heap.size v ws)]⟩) ?le ⟨0,[],r,.slice none 0 0,by omega,rfl,rfl,a,by cases Cq KF (m-0) r<;>simp,by omega,rfl⟩ ?round
  case le=>exact Zkx
  case round=>
   rintro A _ ⟨k,ws,J,v,B,rfl,xl,Z,xg,Y,rfl⟩;by_cases O:k<m
   .have s:=A27 T J Z 4 ZbL
    refine Go ?_;refine Bd [0] [] [] (s) (BX rfl) (λN=>(by repeat (first | exact AN (absurd N ZbG) | apply AH | apply PanQ.block | apply PanQ.loop):PanQ _ _) _) rfl rfl ZbF ZbD ZbL ZbB ZbH trivial rfl ?_;rintro _ _ ⟨p,rfl,rfl⟩;refine Kr ?_
    obtain⟨X,K,S,g,h,rfl⟩:∃X K S g h,J=X::K::S::g::h:=by
     match J,p with
     |X::K::S::g::h,_=>exact⟨X,K,S,g,h,rfl⟩
    have b0:=Z.lt X ZbV;have u:=Z.lt K ZbV;have o:=Z.lt S ZbV;have b3:=Z.lt g ZbV;have H:Byt h:=Z.drop 4;have xe:=Z.len;have xj:ws.length<=1000000000:=by omega
    obtain⟨w,xf⟩:∃w,w=X*16777216+K*65536+S*256+g:=⟨_,rfl⟩;have G:w<4294967296:=by omega
    have P:=DX O xg (show KF (X::K::S::g::h)=some (w,h)by rw[xf];rfl);obtain⟨f,xd⟩:∃x,x=X*2^24:=⟨_,rfl⟩;obtain⟨U,z⟩:∃x,x=K*2^16:=⟨_,rfl⟩;obtain⟨x2,xa⟩:∃x,x=S*2^8:=⟨_,rfl⟩;obtain⟨R,xb⟩:∃x,x=f+U:=⟨_,rfl⟩;obtain⟨i,xc⟩:∃x,x=R+x2:=⟨_,rfl⟩;have xi:IntKind.u32.wrap (((X:Nat):Int)*2^24)=((f:Nat):Int):=by rw[w32 ZbG];omega
    have xh:IntKind.u32.wrap (((K:Nat):Int)*2^16)=((U:Nat):Int):=by rw[w32 ZbG];omega
    have q8:IntKind.u32.wrap (((S:Nat):Int)*2^8)=((x2:Nat):Int):=by rw[w32 ZbG];omega
    have e:=RU (m:=X) (j:=24) (n:=U) ZbG ZbG;rw[<-xd,<-xb]at e;have t:=RU (m:=X*2^8+K) (j:=16) (n:=x2) ZbG ZbG;rw[show(X*2^8+K)*2^16=R by omega,<-xc]at t;have o3:=RU (m:=X*2^16+K*2^8+S) (j:=8) (n:=g) ZbG ZbG;rw[show(X*2^16+K*2^8+S)*2^8=i by omega,show i+g=w by omega]at o3;refine Go ?_;refine FH 4 (.obj (WOV C.g.w.heap.size v ws)) (.obj (WOD C.g.w.heap.size (ws++[w]))) 25 27 [26,25,24,23,22,21,20,19,18,17,16,15,14,13,12,11,10,9,8,7,6,5,4,3,2,1,0] [24] [.ptr 3 1,.d (ex v),.d (Hf T [X,K,S,g]),.d (Fg T [ex (.int .u8 ((X:Nat):Int))]),.d (ex (.int .u8 ((X:Nat):Int))),.d (ex (.int .u32 ((X:Nat):Int))),.d (ex (.int .u32 ((f:Nat):Int))),.d (Hf T [X,K,S,g]),.d (Fg T [ex (.int .u8 ((K:Nat):Int))]),.d (ex (.int .u8 ((K:Nat):Int))),.d (ex (.int .u32 ((K:Nat):Int))),.d (ex (.int .u32 ((U:Nat):Int))),.d (ex (.int .u32 ((R:Nat):Int))),.d (Hf T [X,K,S,g]),.d (Fg T [ex (.int .u8 ((S:Nat):Int))]),.d (ex (.int .u8 ((S:Nat):Int))),.d (ex (.int .u32 ((S:Nat):Int))),.d (ex (.int .u32 ((x2:Nat):Int))),.d (ex (.int .u32 ((i:Nat):Int))),.d (Hf T [X,K,S,g]),.d (Fg T [ex (.int .u8 ((g:Nat):Int))]),.d (ex (.int .u8 ((g:Nat):Int))),.d (ex (.int .u32 ((g:Nat):Int))),.d (ex (.int .u32 ((w:Nat):Int))),.d (slD 335 1 [[ex (.int .u32 ((w:Nat):Int))]]),.own 4,.ptr 3 1] [[],[(29,0)],[],[(31,2)],[(32,3)],[(33,4)],[(34,5)],[],[(36,7)],[(37,8)],[(38,9)],[(39,10)],[(35,6),(40,11)],[],[(42,13)],[(43,14)],[(44,15)],[(45,16)],[(41,12),(46,17)],[],[(48,19)],[(49,20)],[(50,21)],[(47,18),(51,22)],[(52,23)],[(30,1),(53,24)],[]] [(0,.ptr 0 0),(2,.ptr 2 0),(4,.ptr 3 0),(24,.d (ex (.int .u64 (m:Nat)))),(25,.d (ex (.int .u64 (k:Nat)))),(5,.d (Hf T [X,K,S,g]))] [(54,.own 4),(55,.ptr 3 1),(0,.ptr 0 0),(2,.ptr 2 0),(4,.ptr 3 0),(24,.d (ex (.int .u64 (m:Nat)))),(25,.d (ex (.int .u64 (k:Nat))))] ZbK rfl ⟨rfl,rfl,rfl,rfl,rfl,rfl,trivial⟩ rfl rfl ZbK ZbK ZbK (by refine DSteps.q rfl ZbE ?_;refine DSteps.q rfl (λ_=>JY (ah rfl) rfl (Aa rfl) rfl rfl) ?_;refine DSteps.q rfl ZbE ?_;refine DSteps.q rfl (λ_=>Ht rfl (ah rfl) (Aa rfl) (Aa rfl) rfl rfl ZbG) ?_;refine DSteps.q rfl (λ_=>Gi (ah rfl) (Aa rfl) rfl rfl) ?_;refine DSteps.q rfl (λ_=>AP (ah rfl) (Aa rfl) (Aa rfl) (w32 ZbG)) ?_;refine DSteps.q rfl (λ_=>Me (n:=24) (ah rfl) (ah rfl) rfl xi) ?_;refine DSteps.q rfl ZbE ?_;refine DSteps.q rfl (λ_=>Ht rfl (ah rfl) (Aa rfl) (Aa rfl) rfl rfl ZbG) ?_;refine DSteps.q rfl (λ_=>Gi (ah rfl) (Aa rfl) rfl rfl) ?_;refine DSteps.q rfl (λ_=>AP (ah rfl) (Aa rfl) (Aa rfl) (w32 ZbG)) ?_;refine DSteps.q rfl (λ_=>Me (n:=16) (ah rfl) (ah rfl) rfl xh) ?_;refine DSteps.q rfl (λ_=>WN (ah rfl) (ah rfl) e) ?_;refine DSteps.q rfl ZbE ?_;refine DSteps.q rfl (λ_=>Ht rfl (ah rfl) (Aa rfl) (Aa rfl) rfl rfl ZbG) ?_;refine DSteps.q rfl (λ_=>Gi (ah rfl) (Aa rfl) rfl rfl) ?_;refine DSteps.q rfl (λ_=>AP (ah rfl) (Aa rfl) (Aa rfl) (w32 ZbG)) ?_;refine DSteps.q rfl (λ_=>Me (n:=8) (ah rfl) (ah rfl) rfl q8) ?_;refine DSteps.q rfl (λ_=>WN (ah rfl) (ah rfl) t) ?_;refine DSteps.q rfl ZbE ?_;refine DSteps.q rfl (λ_=>Ht rfl (ah rfl) (Aa rfl) (Aa rfl) rfl rfl ZbG) ?_;refine DSteps.q rfl (λ_=>Gi (ah rfl) (Aa rfl) rfl rfl) ?_;refine DSteps.q rfl (λ_=>AP (ah rfl) (Aa rfl) (Aa rfl) (w32 ZbG)) ?_;refine DSteps.q rfl (λ_=>WN (ah rfl) (ah rfl) o3) ?_;refine DSteps.q rfl (λ_=>As Zdl) ?_;refine DSteps.k rfl (DTurn.words rfl rfl rfl (Aa rfl) (Aa rfl) rfl (by repeat (first | exact AllNw.nil | apply AllNw.x | apply AllNw.b | apply AllNw.e | (refine AllNw.p rfl ?_) | (refine AllNw.c rfl ?_) | (refine AllNw.l rfl ?_) | (refine AllNw.o rfl ?_))) (by repeat (first | exact AllNw.nil | apply AllNw.x | apply AllNw.b | (refine AllNw.p rfl ?_))) (by repeat (first | exact MemNw.nil | (refine A8n rfl ?_) | (refine A8m (by repeat (first | exact AllNw.nil | apply AllNw.x | apply AllNw.b)) ?_) | (refine MemNw.p (by repeat (first | exact AllNw.nil | (refine AllNw.o rfl ?_))) ?_))) rfl G ZbG ZbG) ?_;refine DSteps.q rfl ZbE ?_;exact DSteps.nil) ZbK ZbK ⟨rfl,rfl,rfl,rfl,rfl,rfl,rfl,trivial⟩ [.var 92 [.d (Hf T h)],.pin [(Q,.own 0)],.var 109 [.d (ex (.bool false)),.d (ex (.slice none 0 0))],.var 109 [.d (ex (.bool (((n%2:Nat):Int)==1))),.d (ex v)],.obj (WOD C.g.w.heap.size (ws++[w]))] rfl ?_;refine Ep (ao rfl) (ao rfl) rfl (Aa rfl) (A8k rfl) rfl rfl ?_;refine AWl.nil<|Bi<|Yn ?_;refine A4f 4 C.g.w.heap.size (ws++[w]) rfl λb=>?_;apply AWp.region
    refine ZfK ?_;refine Ai (m-(k+1)) ZbG ⟨k+1,ws++[w],h,b,by omega,rfl,by rw[Yaa];simp;omega,H,P,by simp at Y;omega,rfl⟩ ?_;exact Zkx
   .obtain rfl:k=m:=by omega
    have V:Cq KF k r=some (ws,J):=by rw[xg,Yeo];simp[Cq,Cu]
    rw[V]at M;apply Y1;refine Wq AO ?_;refine Y0<|Ah<|Cf<|Cg<|BD<|BS<|BI<|Yn<|Y1 ?_
    refine Bk (σ':=⟨[(2,.ptr 2 0),(4,.ptr 3 0)],[.var 92 [.d (Hf T J)],.pin [(Q,.own 0)],.var 109 ([ex (.bool false),ex (.slice none 0 0)].map .d),.var 109 ([ex (.bool (((n%2:Nat):Int)==1)),wD ws].map .d)]⟩) ?wk ?_
    case wk => exact Ac (by repeat (first | exact FrLe.nil | refine Yp ?_)) (by
     refine HpLe.cons (Ad rfl) ?_;refine HpLe.cons (Ak rfl) ?_;refine HpLe.cons (Ad rfl) ?_;refine HpLe.cons (OwLe.var rfl λj y W=>?_) HpLe.nil
     match j,W with
     |0,W=>cases W;exact⟨_,rfl,AVle.d rfl⟩
     |1,W=>cases W;exact⟨_,rfl,AVle.words (id:=4) rfl⟩)
    refine Zfy ?_;exact⟨((((n%2:Nat):Int)==1),ws),J,by rw[M];simp only[Ydt];congr 3;rw[YcJ];simp;omega,Z,rfl,rfl⟩
 .rw [Yai d]at M
  refine Zhd ?_;refine Dq (ao rfl) ?_;exact(by repeat (first | exact AN (M) | apply AH | apply PanQ.block | apply PanQ.loop):PanQ _ _) _
theorem A81(i:Rdr 184 (λx:List (List RTm)=>Ic x) (EY G0))(s:Rdr 186 (λx:List (Nat->Int)=>Du x) (OP G0))(t:Rdr 189 (λx:List (List (List RTm))=>Tu x) (OG G0))(xi:Rdr 190 (λx:Rsl=>AQ (RE x)) (XC G0))(p:Rdr 188 (λx:List (Nat->RQ×RQ)=>FX x) (Pn G0))(xg:Rdr 192 (λx:RQ×RQ=>AQ (Jk x)) (VT G0))(xj:Rdr 194 (λx:RQ×List RTm=>AQ (Jv x)) (sqP G0))(xh:Rdr 196 (λx:Nat->RQ=>AQ (Mq x)) (ptP G0)):Rdr 98 (λe:Crt=>AQ (DE e)) (KB G0):=Rdr.intro λT l I=>by
 have L:=Gy T l I;refine Bu func98 rfl (Ag func98 ZbK ZbK) rfl λw E=>?_;rw[ntmps98];refine Go ?_;refine Bd [0] [] [] (L) (BX rfl) (λN=>(by repeat (first | exact AN (by unfold KB;exact Rd.none N) | apply AH | apply PanQ.block | apply PanQ.loop):PanQ _ _) _) rfl rfl ZbF ZbD ZbL ZbB ZbH trivial rfl ?_;rintro _ _ ⟨nv,r,q,G,rfl,rfl⟩;refine Kr ?_;have k:=i T r G;refine Go ?_;refine Bd [0] [] [] (k) (BX rfl) (λN=>(by repeat (first | exact AN (by unfold KB;rw[Rd.some q];exact Rd.none N) | apply AH | apply PanQ.block | apply PanQ.loop):PanQ _ _) _) rfl rfl ZbF ZbD ZbL ZbB ZbH trivial rfl ?_;rintro _ _ ⟨xf,j,A,F,rfl,rfl⟩;refine Kr ?_;have a:=i T j F;refine Go ?_;refine Bd [0] [] [] (a) (BX rfl) (λN=>(by repeat (first | exact AN (by unfold KB;rw[Rd.some q,Rd.some A];exact Rd.none N) | apply AH | apply PanQ.block | apply PanQ.loop):PanQ _ _) _) rfl rfl ZbF ZbD ZbL ZbB ZbH trivial rfl ?_;rintro _ _ ⟨O,g,K,H,rfl,rfl⟩;refine Kr ?_;have V:=s T g H;refine Go ?_;refine Bd [0] [] [] (V) (BX rfl) (λN=>(by repeat (first | exact AN (by unfold KB;rw[Rd.some q,Rd.some A,Rd.some K];exact Rd.none N) | apply AH | apply PanQ.block | apply PanQ.loop):PanQ _ _) _) rfl rfl ZbF ZbD ZbL ZbB ZbH trivial rfl ?_;rintro _ _ ⟨M,m,Y,c,rfl,rfl⟩;refine Kr ?_;have d:=t T m c;refine Go ?_;refine Bd [0] [] [] (d) (BX rfl) (λN=>(by repeat (first | exact AN (by unfold KB;rw[Rd.some q,Rd.some A,Rd.some K,Rd.some Y];exact Rd.none N) | apply AH | apply PanQ.block | apply PanQ.loop):PanQ _ _) _) rfl rfl ZbF ZbD ZbL ZbB ZbH trivial rfl ?_;rintro _ _ ⟨S,l5,n,Z,rfl,rfl⟩;refine Kr ?_;have u:=t T l5 Z;refine Go ?_;refine Bd [0] [] [] (u) (BX rfl) (λN=>(by repeat (first | exact AN (by unfold KB;rw[Rd.some q,Rd.some A,Rd.some K,Rd.some Y,Rd.some n];exact Rd.none N) | apply AH | apply PanQ.block | apply PanQ.loop):PanQ _ _) _) rfl rfl ZbF ZbD ZbL ZbB ZbH trivial rfl ?_;rintro _ _ ⟨qv,l6,B,P,rfl,rfl⟩;refine Kr ?_;have z:=t T l6 P;refine Go ?_;refine Bd [0] [] [] (z) (BX rfl) (λN=>(by repeat (first | exact AN (by unfold KB;rw[Rd.some q,Rd.some A,Rd.some K,Rd.some Y,Rd.some n,Rd.some B];exact Rd.none N) | apply AH | apply PanQ.block | apply PanQ.loop):PanQ _ _) _) rfl rfl ZbF ZbD ZbL ZbB ZbH trivial rfl ?_;rintro _ _ ⟨b,l7,f,R,rfl,rfl⟩;refine Kr ?_;have xa:=xi T l7 R;refine Go ?_;refine Bd [0] [] [] (xa) (BX rfl) (λN=>(by repeat (first | exact AN (by unfold KB;rw[Rd.some q,Rd.some A,Rd.some K,Rd.some Y,Rd.some n,Rd.some B,Rd.some f];exact Rd.none N) | apply AH | apply PanQ.block | apply PanQ.loop):PanQ _ _) _) rfl rfl ZbF ZbD ZbL ZbB ZbH trivial rfl ?_;rintro _ _ ⟨Q,l8,y,h,rfl,rfl⟩;refine Kr ?_;have xb:=(AbP xg) T l8 h;refine Zgy ?_;refine Bd [0] [] [] (xb) (BX rfl) (λN=>(by repeat (first | exact AN (by unfold KB;rw[Rd.some q,Rd.some A,Rd.some K,Rd.some Y,Rd.some n,Rd.some B,Rd.some f,Rd.some y];exact Rd.none N) | apply AH | apply PanQ.block | apply PanQ.loop):PanQ _ _) _) rfl rfl ZbF ZbD ZbL ZbB ZbH trivial rfl ?_;rintro _ _ ⟨C,l9,W,U,rfl,rfl⟩;refine Kr ?_;have xm:=(AbN xj) T l9 U;refine Zgy ?_;refine Bd [0] [] [] (xm) (BX rfl) (λN=>(by repeat (first | exact AN (by unfold KB;rw[Rd.some q,Rd.some A,Rd.some K,Rd.some Y,Rd.some n,Rd.some B,Rd.some f,Rd.some y,Rd.some W];exact Rd.none N) | apply AH | apply PanQ.block | apply PanQ.loop):PanQ _ _) _) rfl rfl ZbF ZbD ZbL ZbB ZbH trivial rfl ?_;rintro _ _ ⟨xq,xn,X,xc,rfl,rfl⟩;refine Kr ?_;have xk:=(AbO xh) T xn xc;refine Zgy ?_;refine Bd [0] [] [] (xk) (BX rfl) (λN=>(by repeat (first | exact AN (by unfold KB;rw[Rd.some q,Rd.some A,Rd.some K,Rd.some Y,Rd.some n,Rd.some B,Rd.some f,Rd.some y,Rd.some W,Rd.some X];exact Rd.none N) | apply AH | apply PanQ.block | apply PanQ.loop):PanQ _ _) _) rfl rfl ZbF ZbD ZbL ZbB ZbH trivial rfl ?_;rintro _ _ ⟨xv,xo,v,xd,rfl,rfl⟩;refine Kr ?_;have xl:=p T xo xd;refine Go ?_;refine Bd [0] [] [] (xl) (BX rfl) (λN=>(by repeat (first | exact AN (by unfold KB;rw[Rd.some q,Rd.some A,Rd.some K,Rd.some Y,Rd.some n,Rd.some B,Rd.some f,Rd.some y,Rd.some W,Rd.some X,Rd.some v];exact Rd.none N) | apply AH | apply PanQ.block | apply PanQ.loop):PanQ _ _) _) rfl rfl ZbF ZbD ZbL ZbB ZbH trivial rfl ?_;rintro _ _ ⟨J,xp,o,xe,rfl,rfl⟩;refine Kr ?_;refine Zfy ?_;exact⟨⟨nv,xf,O,M,S,qv,b,Q,C,xq,xv,J⟩,xp,by unfold KB;rw[Rd.some q,Rd.some A,Rd.some K,Rd.some Y,Rd.some n,Rd.some B,Rd.some f,Rd.some y,Rd.some W,Rd.some X,Rd.some v,Rd.some o];rfl,xe,rfl,rfl⟩
theorem A7K(h:Rdr 96 (λx:Cor=>AQ (Ec x)) (YI G0))(b:Rdr 97 (λx:Clm=>AQ (ED x)) (MR G0))(Q:Rdr 98 (λx:Crt=>AQ (DE x)) (KB G0)):Rdr 42 (λf:Fct=>AQ (Eb f)) (Sy G0):=Rdr.intro λT l I=>by
 have G:=h T l I;refine Bu func42 rfl (Ag func42 ZbK ZbK) rfl λw B=>?_;rw[ntmps42];refine Go ?_;refine Bd [0] [] [] (G) (BX rfl) (λN=>(by repeat (first | exact AN (Rd.none N) | apply AH | apply PanQ.block | apply PanQ.loop):PanQ _ _) _) rfl rfl ZbF ZbD ZbL ZbB ZbH trivial rfl ?_;rintro _ _ ⟨k,r,q,E,rfl,rfl⟩;refine Kr ?_;have F:=b T r E;refine Go ?_;refine Bd [0] [] [] (F) (BX rfl) (λN=>(by repeat (first | exact AN (by unfold Sy;rw[Rd.some q];exact Rd.none N) | apply AH | apply PanQ.block | apply PanQ.loop):PanQ _ _) _) rfl rfl ZbF ZbD ZbL ZbB ZbH trivial rfl ?_;rintro _ _ ⟨c,j,A,C,rfl,rfl⟩;refine Kr ?_;have a:=Q T j C;refine Go ?_;refine Bd [0] [] [] (a) (BX rfl) (λN=>(by repeat (first | exact AN (by unfold Sy;rw[Rd.some q,Rd.some A];exact Rd.none N) | apply AH | apply PanQ.block | apply PanQ.loop):PanQ _ _) _) rfl rfl ZbF ZbD ZbL ZbB ZbH trivial rfl ?_;rintro _ _ ⟨e,g,K,H,rfl,rfl⟩;refine Kr ?_;refine Zfy ?_;exact⟨⟨k,c,e⟩,g,by unfold Sy;rw[Rd.some q,Rd.some A,Rd.some K];rfl,H,rfl,rfl⟩
theorem A9G:Rdr 42 (λf:Fct=>AQ (Eb f)) (Sy G0):=by
 have rat:=XG A0v;have R:=Ym rat;have E:=A7o (A7a rat);have Z:=A58 E;have T:=A67 (Aa2 R);have B:=A5e RX;exact A7K (A7S Z (Yi XL)) (A60 E Z B T) (A81 Z B (A2O Z) (Vx (TA rat)) T R (A2R rat E) (A5b rat))
