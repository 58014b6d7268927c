/- Part 9. No condition. -/
import Derived.Great.BuildSlice
import Derived.Test.YtcikkglcoeedlaaGreatBk4
import Derived.Test.YtcikkglcoeedlaaGreatBk8
set_option linter.unusedSimpArgs false
set_option linter.unusedVariables false
set_option maxRecDepth 100000
set_option maxHeartbeats 1600000
namespace Go.Proofs.YtcikkglcoeedlaaGreat
open _root_.Go.Proofs.Tryz
open Go.RowKit
variable{vb uh:List Tm}{n b:Nat}{vA:Rat}{e:Type}
def tmc(b y:Bool)(A K:Option Addr)(n c g l:Nat)(a:Nat->Int):Array Value:=#[.bool b,.slice A n c,.bool y,.slice K g l,.int .i64 (a 0),.int .i64 (a 1),.int .i64 (a 2),.int .i64 (a 3),.int .i64 (a 4),.int .i64 (a 5),.int .i64 (a 6),.int .i64 (a 7)]
def TmV(w:World)(h:Array Value)(t:Tm):Prop:=∃(b y:Bool) (A K:Option Addr) (n c g l:Nat),h=tmc b y A K n c g l t.m/\IsRat w (.bool b) (.slice A n c) (.bool y) (.slice K g l) t.c
def BA(P:List Tm)(k:Nat):Tm:=P.getD k default
theorem Dw(h:n<vb.length):BA vb n∈vb:=by
 unfold BA;exact Zgc
theorem GP(h:n<vb.length):vb.drop n=BA vb n::vb.drop (n+1):=by
 unfold BA;rw[Yab,Yac h,Ycn h];rfl
theorem QX(h:n<vb.length):vb.take n++[BA vb n]=vb.take (n+1):=by
 rw[Ycj h];exact ZjL
def AbF(w:World)(v:Value)(P:List Tm):Prop:=
 ∃(A:Option Addr) (c:Nat),v=.slice A P.length c/\P.length<=c/\c<=9223372036854775807 /\
  (0<P.length->∃(b o:Nat) (h:Array Value) (S:Nat×Nat),A=some ⟨b,o,none⟩/\w.heap[b]? = some (.cells h 114 S)/\∀k,k<P.length->∃n,TmV w n (BA P k)/\∀j,j<12->h[o+k*12+j]? = n[j]?)
def PSz(P:List Tm)(N:Nat):Prop:=∀t∈P,RSz t.c N
theorem PSz.mono(h:PSz vb n)(x:n<=b):PSz vb b:=λt M=>(h t M).mono x
def PIn(P:List Tm)(F K:Int):Prop:=∀t∈P,In8 t.m F K
theorem PIn.mono{a b c d:Int}(h:PIn vb a b)(A:c<=a)(B:b<=d):PIn vb c d:=λt M=>(h t M).mono A B
theorem A5H(h:As n=As b):n=b:=by rw[<-AJ n,<-AJ b,h]
theorem Ux(b L:Bool)(A W:Option Addr)(n c g l:Nat)(x y:Int)(w:World)(h:IsInt w (.bool b) (.slice A n c) x)(M:IsInt w (.bool L) (.slice W g l) y) :
  Calls prog 218 #[.agg #[.bool b,.slice A n c],.agg #[.bool L,.slice W g l]] w λe N=>e=.returned (.bool (decide (x=y)))/\Ext w N:=by
 have p:Hid (Blk ((w.alloc (.cells #[.bool b,.slice A n c] 109)).alloc (.cells #[.bool L,.slice W g l] 109)) w.heap.size 109 #[.bool b,.slice A n c]):=(Blk.new _ _ _).alloc _;have xc:Hid (Blk ((w.alloc (.cells #[.bool b,.slice A n c] 109)).alloc (.cells #[.bool L,.slice W g l] 109)) (w.heap.size+1) 109 #[.bool L,.slice W g l]):=ES _ _ ZbS;have V:Hid (Ext w ((w.alloc (.cells #[.bool b,.slice A n c] 109)).alloc (.cells #[.bool L,.slice W g l] 109))):=((Ext.refl _).alloc _).alloc _;obtain⟨B,d,U,u,z,G⟩:=h.2.open_;obtain⟨B',a,xb,t,xg,O⟩:=M.2.open_;injection U with Z s H
 subst Z;subst H;injection xb with f o q
 subst f;subst q;have I:b=decide (x<0):=by have:=h.1;injection this
 have T:L=decide (y<0):=by have:=M.1;injection this
 replace G:=Af G;replace O:=Af O;replace s:=Af s;replace o:=Af o;have xh:n<=9223372036854775807:=by have:=s.out;omega
 clear h M u t;by_cases xa:b=L
 .by_cases xj:n=g
  .subst xa;subst xj
   have xd:Hid (x.natAbs=y.natAbs->x=y):=Af λh=>by
    rw[I]at T;by_cases C:x<0<;>by_cases E:y<0<;>simp[C,E]at T<;>omega
   clear I T;go_enter func218,ntmps218;go_wp2;generalize ((w.alloc (.cells #[.bool b,.slice A n c] 109)).alloc (.cells #[.bool b,.slice W n l] 109))=wa at *;generalize w.heap.size=v at *;go_loopw [5] (λi wr=>∃k:Nat,k<=n/\i=.int .i64 k/\Hid (Ext wa wr/\∀i,i<k->(As x.natAbs).getD i 0=(As y.natAbs).getD i 0)) (λi _=>n-(intOf i).toNat)
   case atStart=>exact⟨0,by omega,rfl,Ext.refl _,λi K=>absurd K (Ybh _)⟩
   case round=>
    obtain⟨k,F,rfl,R⟩:=hrel;have m:wr.cell? ⟨v,1,none⟩=some (.slice A n c):=R.out.1.cellv (p.out.cell 1);have j:wr.cell? ⟨v+1,1,none⟩=some (.slice W n l):=R.out.1.cellv (xc.out.cell 1);by_cases Q:k<n
    .have J:decide (k<n)=true:=by simpa using Q
     obtain⟨gx,ox,rfl,xm,xk⟩:=G.out (by rw[<-s.out];omega);obtain⟨gy,P,rfl,xn,xf⟩:=O.out (by rw[<-o.out];omega);replace xk:wr.cell? ⟨gx,ox+k,none⟩=some (.int .u32 ((As x.natAbs).getD k 0:Nat)):=(V.out.trans R.out.1).cellv (xk k (by rw[<-s.out];omega));replace xf:wr.cell? ⟨gy,P+k,none⟩=some (.int .u32 ((As y.natAbs).getD k 0:Nat)):=(V.out.trans R.out.1).cellv (xf k (by rw[<-o.out];omega));generalize r:(As x.natAbs).getD k 0=X at *;generalize hY:(As y.natAbs).getD k 0=Y at *;replace r:=Af r;replace hY:=Af hY;by_cases xi:X=Y
     .subst xi
      have xp:IntKind.i64.wrap ((k:Int)+1)=(k:Int)+1:=IntWalk.i64_in _ ZbD;go_wp2;go_quiet (fail);go_wp2;refine⟨⟨k+1,Q,by simp,R.out.1.drewN _,λi K=>?_⟩,by simp[intOf];omega⟩;by_cases e:i=k
      .rw [e,r.out,hY.out]
      .exact R.out.2 i ZbD
     .have S:¬x=y:=λe=>xi (by rw [<-r.out, <-hY.out, e])
      have xl:¬((X:Int)=Y):=by omega
      replace xi:=Af xi;go_wp2;go_quiet (fail);go_wp2;go_ret;exact⟨by simp[S],V.out.trans (R.out.1.drewN _)⟩
    .obtain rfl:k=n:=by omega
     have J:decide (k<k)=false:=by simp
     have xe : x = y := xd.out (A5H (List.ext_getElem (by rw [← s.out, ← o.out]) fun i C E => by
      have:=R.out.2 i (by rw[s.out];exact C);simpa[Yab,Yac C,Yac E]using this))
     replace xe:=Af xe;go_wp2;go_ret;exact⟨by simp[xe.out],V.out.trans R.out.1⟩
  .subst xa
   have S:¬x=y:=λe=>xj (by rw[s.out,o.out,e]);have xo:¬((n:Int)=g):=by omega
   replace xj:=Af xj;replace S:=Af S;clear I T;go_enter func218,ntmps218;go_wp2;go_ret;exact⟨by simp[S.out],V.out⟩
 .have S:¬x=y:=λe=>xa (by rw [I, T, e])
  replace S:=Af S;clear I T;cases b<;>cases L
  .exact absurd rfl xa
  .exact ZaI
  .exact ZaI
  .exact absurd rfl xa
theorem A0H(c M:Bool)(g I:Option Addr)(k E Y Q:Nat)(i R:Bool)(a S:Option Addr)(l d Z K:Nat)(p q:Rat)(w:World)(h:IsRat w (.bool c) (.slice g k E) (.bool M) (.slice I Y Q) p)(b:IsRat w (.bool i) (.slice a l d) (.bool R) (.slice S Z K) q) :
  Calls prog 117 #[.agg #[.bool c,.slice g k E,.bool M,.slice I Y Q],.agg #[.bool i,.slice a l d,.bool R,.slice S Z K]] w λe N=>e=.returned (.bool (decide (p=q)))/\Ext w N:=by
 have f:Hid (Blk ((w.alloc (.cells #[.bool c,.slice g k E,.bool M,.slice I Y Q] 111)).alloc (.cells #[.bool i,.slice a l d,.bool R,.slice S Z K] 111)) w.heap.size 111 #[.bool c,.slice g k E,.bool M,.slice I Y Q]):=(Blk.new _ _ _).alloc _;have n:Hid (Blk ((w.alloc (.cells #[.bool c,.slice g k E,.bool M,.slice I Y Q] 111)).alloc (.cells #[.bool i,.slice a l d,.bool R,.slice S Z K] 111)) (w.heap.size+1) 111 #[.bool i,.slice a l d,.bool R,.slice S Z K]):=ES _ _ ZbS;have V:Hid (Ext w ((w.alloc (.cells #[.bool c,.slice g k E,.bool M,.slice I Y Q] 111)).alloc (.cells #[.bool i,.slice a l d,.bool R,.slice S Z K] 111))):=((Ext.refl _).alloc _).alloc _;replace h:=Af (h.ext V.out);replace b:=Af (b.ext V.out);go_enter func117,ntmps117;go_wp2_with fail;generalize ((w.alloc (.cells #[.bool c,.slice g k E,.bool M,.slice I Y Q] 111)).alloc (.cells #[.bool i,.slice a l d,.bool R,.slice S Z K] 111))=r at *;generalize w.heap.size=C at *;refine(Ux _ _ _ _ _ _ _ _ p.num q.num _ h.out.1 b.out.1).mono ?_;rintro e j ⟨rfl,L⟩;have G:j.cell? ⟨C,2,none⟩=some (.bool M):=L.cellv (f.out.cell 2);have B:j.cell? ⟨C,3,none⟩=some (.slice I Y Q):=L.cellv (f.out.cell 3);have T:j.cell? ⟨C+1,2,none⟩=some (.bool R):=L.cellv (n.out.cell 2);have F:j.cell? ⟨C+1,3,none⟩=some (.slice S Z K):=L.cellv (n.out.cell 3);replace L:=Af L;by_cases W:p.num=q.num
 .have A:decide (p.num=q.num)=true:=by simpa using W
  rw[A];replace W:=Af W;clear A;go_wp2_with fail;refine(Ux _ _ _ _ _ _ _ _ (p.den:Int) (q.den:Int) _ (h.out.2.ext L.out) (b.out.2.ext L.out)).mono ?_;rintro e J ⟨rfl,P⟩
  have X:decide ((p.den:Int)=q.den)=decide (p=q):=by
   by_cases o:p=q
   .subst o;simp
   .have:¬((p.den:Int)=q.den):=λe=>o (Rat.ext W.out ZbD)
    simp[this,o]
  obtain⟨m,O⟩:∃m,decide (p=q)=m:=⟨_,rfl⟩;rw[X,O];replace O:=Af O;replace P:=Af P;clear X;cases m
  .exact ZaJ
  .exact ZaJ
 .have A:decide (p.num=q.num)=false:=by simpa using W
  rw[A]
  have X:decide (p=q)=false:=by
   simp only[Ydx];exact λe=>W ZeT
  replace X:=Af X;clear A W;go_wp2;go_ret;exact⟨by rw[X.out];rfl,V.out.trans L.out⟩
noncomputable def tmB (s t:Tm):Bool:=Om s.m t.m&&decide (s.c=t.c)
theorem WX{s t:Tm}:tmB s t=true↔Eqv s.m t.m/\s.c=t.c:=by
 unfold tmB;rw[Yam,IH,Ybb];exact YdO
theorem Tq(G M:Bool)(g A:Option Addr)(I E O Q:Nat)(i R:Bool)(F S:Option Addr)(k d C B:Nat)(s t:Tm)(w:World)(h:IsRat w (.bool G) (.slice g I E) (.bool M) (.slice A O Q) s.c)(b:IsRat w (.bool i) (.slice F k d) (.bool R) (.slice S C B) t.c) :
  Calls prog 50 #[.agg #[.bool G,.slice g I E,.bool M,.slice A O Q,.int .i64 (s.m 0),.int .i64 (s.m 1),.int .i64 (s.m 2),.int .i64 (s.m 3),.int .i64 (s.m 4),.int .i64 (s.m 5),.int .i64 (s.m 6),.int .i64 (s.m 7)],.agg #[.bool i,.slice F k d,.bool R,.slice S C B,.int .i64 (t.m 0),.int .i64 (t.m 1),.int .i64 (t.m 2),.int .i64 (t.m 3),.int .i64 (t.m 4),.int .i64 (t.m 5),.int .i64 (t.m 6),.int .i64 (t.m 7)]] w λe N=>e=.returned (.bool (tmB s t))/\Ext w N:=by
 have f:Hid (Blk ((w.alloc (.cells #[.bool G,.slice g I E,.bool M,.slice A O Q,.int .i64 (s.m 0),.int .i64 (s.m 1),.int .i64 (s.m 2),.int .i64 (s.m 3),.int .i64 (s.m 4),.int .i64 (s.m 5),.int .i64 (s.m 6),.int .i64 (s.m 7)] 114)).alloc (.cells #[.bool i,.slice F k d,.bool R,.slice S C B,.int .i64 (t.m 0),.int .i64 (t.m 1),.int .i64 (t.m 2),.int .i64 (t.m 3),.int .i64 (t.m 4),.int .i64 (t.m 5),.int .i64 (t.m 6),.int .i64 (t.m 7)] 114)) w.heap.size 114 #[.bool G,.slice g I E,.bool M,.slice A O Q,.int .i64 (s.m 0),.int .i64 (s.m 1),.int .i64 (s.m 2),.int .i64 (s.m 3),.int .i64 (s.m 4),.int .i64 (s.m 5),.int .i64 (s.m 6),.int .i64 (s.m 7)]):=(Blk.new _ _ _).alloc _;have Y:Hid (Blk ((w.alloc (.cells #[.bool G,.slice g I E,.bool M,.slice A O Q,.int .i64 (s.m 0),.int .i64 (s.m 1),.int .i64 (s.m 2),.int .i64 (s.m 3),.int .i64 (s.m 4),.int .i64 (s.m 5),.int .i64 (s.m 6),.int .i64 (s.m 7)] 114)).alloc (.cells #[.bool i,.slice F k d,.bool R,.slice S C B,.int .i64 (t.m 0),.int .i64 (t.m 1),.int .i64 (t.m 2),.int .i64 (t.m 3),.int .i64 (t.m 4),.int .i64 (t.m 5),.int .i64 (t.m 6),.int .i64 (t.m 7)] 114)) (w.heap.size+1) 114 #[.bool i,.slice F k d,.bool R,.slice S C B,.int .i64 (t.m 0),.int .i64 (t.m 1),.int .i64 (t.m 2),.int .i64 (t.m 3),.int .i64 (t.m 4),.int .i64 (t.m 5),.int .i64 (t.m 6),.int .i64 (t.m 7)]):=ES _ _ ZbS;have V:Hid (Ext w ((w.alloc (.cells #[.bool G,.slice g I E,.bool M,.slice A O Q,.int .i64 (s.m 0),.int .i64 (s.m 1),.int .i64 (s.m 2),.int .i64 (s.m 3),.int .i64 (s.m 4),.int .i64 (s.m 5),.int .i64 (s.m 6),.int .i64 (s.m 7)] 114)).alloc (.cells #[.bool i,.slice F k d,.bool R,.slice S C B,.int .i64 (t.m 0),.int .i64 (t.m 1),.int .i64 (t.m 2),.int .i64 (t.m 3),.int .i64 (t.m 4),.int .i64 (t.m 5),.int .i64 (t.m 6),.int .i64 (t.m 7)] 114))):=((Ext.refl _).alloc _).alloc _;replace h:=Af (h.ext V.out);replace b:=Af (b.ext V.out);have heq:∀W,_:=λW=>IX s.m t.m W;by_cases x:Om s.m t.m=true
 .rw [x]at heq
  have X:tmB s t=decide (s.c=t.c):=by unfold tmB;rw[x,Bool.true_and]
  rw[X];clear X x;obtain⟨J,K⟩:∃J,decide (s.c=t.c)=J:=⟨_,rfl⟩;replace K:=Af K;go_enter func50,ntmps50;go_wp2_with fail;generalize ((w.alloc (.cells #[.bool G,.slice g I E,.bool M,.slice A O Q,.int .i64 (s.m 0),.int .i64 (s.m 1),.int .i64 (s.m 2),.int .i64 (s.m 3),.int .i64 (s.m 4),.int .i64 (s.m 5),.int .i64 (s.m 6),.int .i64 (s.m 7)] 114)).alloc (.cells #[.bool i,.slice F k d,.bool R,.slice S C B,.int .i64 (t.m 0),.int .i64 (t.m 1),.int .i64 (t.m 2),.int .i64 (t.m 3),.int .i64 (t.m 4),.int .i64 (t.m 5),.int .i64 (t.m 6),.int .i64 (t.m 7)] 114))=a at *;refine(A0H G M g A I E O Q i R F S k d C B s.c t.c _ h.out b.out).mono ?_;rintro e j ⟨rfl,L⟩;rw[K.out];replace L:=Af L;clear heq;cases J
  .go_wp2
   exact ZiQ
  .go_wp2
   exact ZiQ
 .have Z:Om s.m t.m=false:=by simpa using x
  rw[Z]at heq;have X:tmB s t=false:=by unfold tmB;rw[Z,Bool.false_and]
  rw[X];clear X x Z;go_enter func50,ntmps50;go_wp2;go_ret;exact⟨rfl,V.out⟩
noncomputable def JF (P Q:List Tm):Bool:=@decide (SameL P Q) (Classical.propDecidable _)
theorem MD:JF vb uh=true↔SameL vb uh:=by
 unfold JF;exact @decide_eq_true_iff _ (Classical.propDecidable _)
theorem Py(h:¬SameL vb uh):JF vb uh=false:=by
 rw[Yet];exact λb=>h (MD.1 b)
theorem LF:∀{P Q:List Tm},SameL P Q↔P.length=Q.length/\∀k,k<P.length->tmB (BA P k) (BA Q k)=true
 |[],[]=>by simp[SameL]
 |[],t::Q=>by simp[SameL]
 |s::P,[]=>by simp[SameL]
 |s::P,t::Q=>by
  have u:=LF (P:=P) (Q:=Q);constructor
  .rintro ⟨A,B,L⟩
   obtain⟨S,n⟩:=u.1 L;refine⟨by simp[S],λk C=>?_⟩
   match k with
   |0=>exact WX.2 ⟨B,A⟩
   |k+1=>exact n k ZcY
  .rintro ⟨A,B⟩
   have c:=WX.1 (B 0 ZbS);exact⟨c.2,c.1,u.2 ⟨by simpa using A,λk C=>B (k+1) ZcY⟩⟩
def TC(c:Rat)(m:Nat->Int)(P:List Tm):List Tm:=P.map λt=>⟨c*t.c,CT m t.m⟩
@[simp] theorem ZM(c:Rat)(m:Nat->Int)(P:List Tm):(TC c m P).length=P.length:=Yar ..
theorem Uh(f:e->Tm->e)(b:e)(h:n<vb.length):(vb.take (n+1)).foldl f b=f ((vb.take n).foldl f b) (BA vb n):=by
 rw[<-QX h,Yeu];rfl
def Ov(P:List Tm):Nat:=P.foldl (λs t=>s ||| suppTo t.m 8) 0
def Rm(a:Nat->Int)(k:Nat)(z:Int):Nat->Int:=λj=>if j=k then z else a j
theorem In8.zero:In8 (λ_=>0) 0 65535:=λi _=>⟨YbL _,by show(0:Int)<=65535;omega⟩
theorem Hg(a:Nat->Int):CT (λ_=>0) a=a:=by funext i;simp[CT]
theorem DH:vA.num.sign=0↔vA=0:=by rw[Ydj];exact YeC
theorem A1J(h:vA≠0):vA.num≠0:=λe=>h (YeC.1 e)
