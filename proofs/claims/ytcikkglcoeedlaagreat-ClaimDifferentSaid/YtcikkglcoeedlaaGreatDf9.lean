/- Part 9. No condition. -/
import Derived.Great.BuildSlice
import Derived.Test.YtcikkglcoeedlaaGreatDf4
import Derived.Test.YtcikkglcoeedlaaGreatDf8
set_option linter.unusedSimpArgs false
set_option linter.unusedVariables false
set_option maxRecDepth 100000
set_option maxHeartbeats 1600000
namespace Go.Proofs.YtcikkglcoeedlaaGreat
open _root_.Go.Proofs.Tryz
open Go.RowKit
variable{vb uf:List Tm}{n b:Nat}{vD:Rat}{e:Type}{w:World}
def tmc(b z:Bool)(A K:Option Addr)(n c g k:Nat)(a:Nat->Int):Array Value:=#[.bool b,.slice A n c,.bool z,.slice K g k,.int .i64 (a 0),.int .i64 (a 1),.int .i64 (a 2),.int .i64 (a 3),.int .i64 (a 4),.int .i64 (a 5),.int .i64 (a 6),.int .i64 (a 7)]
def TmV(w:World)(f:Array Value)(t:Tm):Prop:=∃(b z:Bool) (A K:Option Addr) (n c g k:Nat),f=tmc b z A K n c g k t.m/\IsRat w (.bool b) (.slice A n c) (.bool z) (.slice K g k) t.c
def Bv(P:List Tm)(k:Nat):Tm:=P.getD k default
theorem Dz(h:n<vb.length):Bv vb n∈vb:=by
 unfold Bv;exact Zge
theorem GQ(h:n<vb.length):vb.drop n=Bv vb n::vb.drop (n+1):=by
 unfold Bv;rw[Yab,Yac h,Ycn h];rfl
theorem Rn(h:n<vb.length):vb.take n++[Bv vb n]=vb.take (n+1):=by
 rw[Yck h];exact ZjU
def PolAt(w:World)(v:Value)(P:List Tm):Prop:=
 ∃(A:Option Addr) (c:Nat),v=.slice A P.length c/\P.length<=c/\c<=9223372036854775807 /\
  (0<P.length->∃(b o:Nat) (f:Array Value) (Q:Nat×Nat),A=some ⟨b,o,none⟩/\w.heap[b]? = some (.cells f 114 Q)/\∀k,k<P.length->∃h,TmV w h (Bv P k)/\∀j,j<12->f[o+k*12+j]? = h[j]?)
theorem PolAt.term{A:Option Addr}(h:PolAt w (.slice A n b) vb){k:Nat}(E:k<vb.length) :
  n=vb.length/\n<=b/\b<=9223372036854775807/\∃(g o:Nat) (q z:Bool) (X e:Option Addr) (Z J a T:Nat),A=some ⟨g,o,none⟩/\g<w.heap.size/\(∀j,j<12->w.cell? ⟨g,o+k*12+j,none⟩=(tmc q z X e Z J a T (Bv vb k).m)[j]?)/\IsRat w (.bool q) (.slice X Z J) (.bool z) (.slice e a T) (Bv vb k).c:=by
 obtain⟨Q,M,B,C,K,Y⟩:=h;injection B with F y O
 subst F;subst y;subst O;obtain⟨q,o,f,S,G,I,L⟩:=Y ZbG;obtain⟨d,⟨c,i,X,e,Z,J,a,T,rfl,N⟩,V⟩:=L k E;exact⟨rfl,C,K,q,o,c,i,X,e,Z,J,a,T,G,Bw I,λj W=>(Db I).trans (V j W),N⟩
def PSz(P:List Tm)(N:Nat):Prop:=∀t∈P,RSz t.c N
theorem PSz.mono(h:PSz vb n)(x:n<=b):PSz vb b:=λt L=>(h t L).mono x
def PIn(P:List Tm)(b J:Int):Prop:=∀t∈P,In8 t.m b J
theorem PIn.mono{a b c d:Int}(h:PIn vb a b)(q:c<=a)(A:b<=d):PIn vb c d:=λt L=>(h t L).mono q A
theorem A5U(h:Aw n=Aw b):n=b:=by rw[<-AK n,<-AK b,h]
theorem UP(b z:Bool)(A f:Option Addr)(n c g S:Nat)(x y:Int)(w:World)(h:IsInt w (.bool b) (.slice A n c) x)(V:IsInt w (.bool z) (.slice f g S) y) :
  Calls prog 218 #[.agg #[.bool b,.slice A n c],.agg #[.bool z,.slice f g S]] w λe M=>e=.returned (.bool (decide (x=y)))/\Ext w M:=by
 have t:Hid (Blk ((w.alloc (.cells #[.bool b,.slice A n c] 109)).alloc (.cells #[.bool z,.slice f g S] 109)) w.heap.size 109 #[.bool b,.slice A n c]):=(Blk.new _ _ _).alloc _;have xg:Hid (Blk ((w.alloc (.cells #[.bool b,.slice A n c] 109)).alloc (.cells #[.bool z,.slice f g S] 109)) (w.heap.size+1) 109 #[.bool z,.slice f g S]):=EQ _ _ ZbV;have Q:Hid (Ext w ((w.alloc (.cells #[.bool b,.slice A n c] 109)).alloc (.cells #[.bool z,.slice f g S] 109))):=((Ext.refl _).alloc _).alloc _;obtain⟨B,d,xb,xa,P,F⟩:=h.2.open_;obtain⟨B',j,xf,U,xj,N⟩:=V.2.open_;injection xb with I L Z
 subst I;subst Z;injection xf with o p u
 subst o;subst u;have G:b=decide (x<0):=by have:=h.1;injection this
 have T:z=decide (y<0):=by have:=V.1;injection this
 replace F:=Af F;replace N:=Af N;replace L:=Af L;replace p:=Af p;have xk:n<=9223372036854775807:=by have:=L.out;omega
 clear h V xa U;by_cases xc:b=z
 .by_cases xm:n=g
  .subst xc;subst xm
   have xh:Hid (x.natAbs=y.natAbs->x=y):=Af λh=>by
    rw[G]at T;by_cases q:x<0<;>by_cases C:y<0<;>simp[q,C]at T<;>omega
   clear G T;go_enter func218,ntmps218;go_wp2;generalize ((w.alloc (.cells #[.bool b,.slice A n c] 109)).alloc (.cells #[.bool b,.slice f n S] 109))=wa at *;generalize w.heap.size=B2 at *;go_loopw [5] (λi wr=>∃k:Nat,k<=n/\i=.int .i64 k/\Hid (Ext wa wr/\∀i,i<k->(Aw x.natAbs).getD i 0=(Aw y.natAbs).getD i 0)) (λi _=>n-(intOf i).toNat)
   case atStart=>exact⟨0,by omega,rfl,Ext.refl _,λi J=>absurd J (Ybg _)⟩
   case round=>
    obtain⟨k,E,rfl,W⟩:=hrel;have m:wr.cell? ⟨B2,1,none⟩=some (.slice A n c):=W.out.1.cellv (t.out.cell 1);have l:wr.cell? ⟨B2+1,1,none⟩=some (.slice f n S):=W.out.1.cellv (xg.out.cell 1);by_cases O:k<n
    .have K:decide (k<n)=true:=by simpa using O
     obtain⟨v,s,rfl,xn,xe⟩:=F.out (by rw[<-L.out];omega);obtain⟨H,r,rfl,xo,xd⟩:=N.out (by rw[<-p.out];omega);replace xe:wr.cell? ⟨v,s+k,none⟩=some (.int .u32 ((Aw x.natAbs).getD k 0:Nat)):=(Q.out.trans W.out.1).cellv (xe k (by rw[<-L.out];omega));replace xd:wr.cell? ⟨H,r+k,none⟩=some (.int .u32 ((Aw y.natAbs).getD k 0:Nat)):=(Q.out.trans W.out.1).cellv (xd k (by rw[<-p.out];omega));generalize R:(Aw x.natAbs).getD k 0=X at *;generalize hY:(Aw y.natAbs).getD k 0=Y at *;replace R:=Af R;replace hY:=Af hY;by_cases xl:X=Y
     .subst xl
      have xr:IntKind.i64.wrap ((k:Int)+1)=(k:Int)+1:=IntWalk.i64_in _ ZbG;go_wp2;go_quiet (fail);go_wp2;refine⟨⟨k+1,O,by simp,W.out.1.drewN _,λi J=>?_⟩,by simp[intOf];omega⟩;by_cases e:i=k
      .rw [e,R.out,hY.out]
      .exact W.out.2 i ZbG
     .have a:¬x=y:=λe=>xl (by rw [<-R.out, <-hY.out, e])
      have xp:¬((X:Int)=Y):=by omega
      replace xl:=Af xl;go_wp2;go_quiet (fail);go_wp2;go_ret;exact⟨by simp[a],Q.out.trans (W.out.1.drewN _)⟩
    .obtain rfl:k=n:=by omega
     have K:decide (k<k)=false:=by simp
     have xi : x = y := xh.out (A5U (List.ext_getElem (by rw [← L.out, ← p.out]) fun i q C => by
      have:=W.out.2 i (by rw[L.out];exact q);simpa[Yab,Yac q,Yac C]using this))
     replace xi:=Af xi;go_wp2;go_ret;exact⟨by simp[xi.out],Q.out.trans W.out.1⟩
  .subst xc
   have a:¬x=y:=λe=>xm (by rw[L.out,p.out,e]);have xq:¬((n:Int)=g):=by omega
   replace xm:=Af xm;replace a:=Af a;clear G T;go_enter func218,ntmps218;go_wp2;go_ret;exact⟨by simp[a.out],Q.out⟩
 .have a:¬x=y:=λe=>xc (by rw [G, T, e])
  replace a:=Af a;clear G T;cases b<;>cases z
  .exact absurd rfl xc
  .exact ZaM
  .exact ZaM
  .exact absurd rfl xc
theorem A0T(Z R:Bool)(X I:Option Addr)(d G S N:Nat)(b K:Bool)(Y J:Option Addr)(f U W O:Nat)(p q:Rat)(w:World)(h:IsRat w (.bool Z) (.slice X d G) (.bool R) (.slice I S N) p)(B:IsRat w (.bool b) (.slice Y f U) (.bool K) (.slice J W O) q) :
  Calls prog 117 #[.agg #[.bool Z,.slice X d G,.bool R,.slice I S N],.agg #[.bool b,.slice Y f U,.bool K,.slice J W O]] w λe M=>e=.returned (.bool (decide (p=q)))/\Ext w M:=by
 have i:Hid (Blk ((w.alloc (.cells #[.bool Z,.slice X d G,.bool R,.slice I S N] 111)).alloc (.cells #[.bool b,.slice Y f U,.bool K,.slice J W O] 111)) w.heap.size 111 #[.bool Z,.slice X d G,.bool R,.slice I S N]):=(Blk.new _ _ _).alloc _;have k:Hid (Blk ((w.alloc (.cells #[.bool Z,.slice X d G,.bool R,.slice I S N] 111)).alloc (.cells #[.bool b,.slice Y f U,.bool K,.slice J W O] 111)) (w.heap.size+1) 111 #[.bool b,.slice Y f U,.bool K,.slice J W O]):=EQ _ _ ZbV;have Q:Hid (Ext w ((w.alloc (.cells #[.bool Z,.slice X d G,.bool R,.slice I S N] 111)).alloc (.cells #[.bool b,.slice Y f U,.bool K,.slice J W O] 111))):=((Ext.refl _).alloc _).alloc _;replace h:=Af (h.ext Q.out);replace B:=Af (B.ext Q.out);go_enter func117,ntmps117;go_wp2_with fail;generalize ((w.alloc (.cells #[.bool Z,.slice X d G,.bool R,.slice I S N] 111)).alloc (.cells #[.bool b,.slice Y f U,.bool K,.slice J W O] 111))=m at *;generalize w.heap.size=o at *;refine(UP _ _ _ _ _ _ _ _ p.num q.num _ h.out.1 B.out.1).mono ?_;rintro e g ⟨rfl,L⟩;have C:g.cell? ⟨o,2,none⟩=some (.bool R):=L.cellv (i.out.cell 2);have E:g.cell? ⟨o,3,none⟩=some (.slice I S N):=L.cellv (i.out.cell 3);have T:g.cell? ⟨o+1,2,none⟩=some (.bool K):=L.cellv (k.out.cell 2);have u:g.cell? ⟨o+1,3,none⟩=some (.slice J W O):=L.cellv (k.out.cell 3);replace L:=Af L;by_cases a:p.num=q.num
 .have A:decide (p.num=q.num)=true:=by simpa using a
  rw[A];replace a:=Af a;clear A;go_wp2_with fail;refine(UP _ _ _ _ _ _ _ _ (p.den:Int) (q.den:Int) _ (h.out.2.ext L.out) (B.out.2.ext L.out)).mono ?_;rintro e F ⟨rfl,P⟩
  have V:decide ((p.den:Int)=q.den)=decide (p=q):=by
   by_cases l:p=q
   .subst l;simp
   .have:¬((p.den:Int)=q.den):=λe=>l (Rat.ext a.out ZbG)
    simp[this,l]
  obtain⟨j,c⟩:∃j,decide (p=q)=j:=⟨_,rfl⟩;rw[V,c];replace c:=Af c;replace P:=Af P;clear V;cases j
  .exact ZaN
  .exact ZaN
 .have A:decide (p.num=q.num)=false:=by simpa using a
  rw[A]
  have V:decide (p=q)=false:=by
   simp only[Ydy];exact λe=>a Zey
  replace V:=Af V;clear A a;go_wp2;go_ret;exact⟨by rw[V.out];rfl,Q.out.trans L.out⟩
noncomputable def ZH (s t:Tm):Bool:=LU s.m t.m&&decide (s.c=t.c)
theorem Xp{s t:Tm}:ZH s t=true↔Eqv s.m t.m/\s.c=t.c:=by
 unfold ZH;rw[Yam,GP,Yba];exact YdG
theorem MB(S R:Bool)(J T:Option Addr)(N F G C:Nat)(X A:Bool)(Y B:Option Addr)(Z U I E:Nat)(s t:Tm)(w:World)(h:IsRat w (.bool S) (.slice J N F) (.bool R) (.slice T G C) s.c)(q:IsRat w (.bool X) (.slice Y Z U) (.bool A) (.slice B I E) t.c) :
  Calls prog 50 #[.agg #[.bool S,.slice J N F,.bool R,.slice T G C,.int .i64 (s.m 0),.int .i64 (s.m 1),.int .i64 (s.m 2),.int .i64 (s.m 3),.int .i64 (s.m 4),.int .i64 (s.m 5),.int .i64 (s.m 6),.int .i64 (s.m 7)],.agg #[.bool X,.slice Y Z U,.bool A,.slice B I E,.int .i64 (t.m 0),.int .i64 (t.m 1),.int .i64 (t.m 2),.int .i64 (t.m 3),.int .i64 (t.m 4),.int .i64 (t.m 5),.int .i64 (t.m 6),.int .i64 (t.m 7)]] w λe M=>e=.returned (.bool (ZH s t))/\Ext w M:=by
 have i:Hid (Blk ((w.alloc (.cells #[.bool S,.slice J N F,.bool R,.slice T G C,.int .i64 (s.m 0),.int .i64 (s.m 1),.int .i64 (s.m 2),.int .i64 (s.m 3),.int .i64 (s.m 4),.int .i64 (s.m 5),.int .i64 (s.m 6),.int .i64 (s.m 7)] 114)).alloc (.cells #[.bool X,.slice Y Z U,.bool A,.slice B I E,.int .i64 (t.m 0),.int .i64 (t.m 1),.int .i64 (t.m 2),.int .i64 (t.m 3),.int .i64 (t.m 4),.int .i64 (t.m 5),.int .i64 (t.m 6),.int .i64 (t.m 7)] 114)) w.heap.size 114 #[.bool S,.slice J N F,.bool R,.slice T G C,.int .i64 (s.m 0),.int .i64 (s.m 1),.int .i64 (s.m 2),.int .i64 (s.m 3),.int .i64 (s.m 4),.int .i64 (s.m 5),.int .i64 (s.m 6),.int .i64 (s.m 7)]):=(Blk.new _ _ _).alloc _;have c:Hid (Blk ((w.alloc (.cells #[.bool S,.slice J N F,.bool R,.slice T G C,.int .i64 (s.m 0),.int .i64 (s.m 1),.int .i64 (s.m 2),.int .i64 (s.m 3),.int .i64 (s.m 4),.int .i64 (s.m 5),.int .i64 (s.m 6),.int .i64 (s.m 7)] 114)).alloc (.cells #[.bool X,.slice Y Z U,.bool A,.slice B I E,.int .i64 (t.m 0),.int .i64 (t.m 1),.int .i64 (t.m 2),.int .i64 (t.m 3),.int .i64 (t.m 4),.int .i64 (t.m 5),.int .i64 (t.m 6),.int .i64 (t.m 7)] 114)) (w.heap.size+1) 114 #[.bool X,.slice Y Z U,.bool A,.slice B I E,.int .i64 (t.m 0),.int .i64 (t.m 1),.int .i64 (t.m 2),.int .i64 (t.m 3),.int .i64 (t.m 4),.int .i64 (t.m 5),.int .i64 (t.m 6),.int .i64 (t.m 7)]):=EQ _ _ ZbV;have Q:Hid (Ext w ((w.alloc (.cells #[.bool S,.slice J N F,.bool R,.slice T G C,.int .i64 (s.m 0),.int .i64 (s.m 1),.int .i64 (s.m 2),.int .i64 (s.m 3),.int .i64 (s.m 4),.int .i64 (s.m 5),.int .i64 (s.m 6),.int .i64 (s.m 7)] 114)).alloc (.cells #[.bool X,.slice Y Z U,.bool A,.slice B I E,.int .i64 (t.m 0),.int .i64 (t.m 1),.int .i64 (t.m 2),.int .i64 (t.m 3),.int .i64 (t.m 4),.int .i64 (t.m 5),.int .i64 (t.m 6),.int .i64 (t.m 7)] 114))):=((Ext.refl _).alloc _).alloc _;replace h:=Af (h.ext Q.out);replace q:=Af (q.ext Q.out);have heq:∀W,_:=λW=>Jb s.m t.m W;by_cases x:LU s.m t.m=true
 .rw [x]at heq
  have V:ZH s t=decide (s.c=t.c):=by unfold ZH;rw[x,Bool.true_and]
  rw[V];clear V x;obtain⟨f,K⟩:∃f,decide (s.c=t.c)=f:=⟨_,rfl⟩;replace K:=Af K;go_enter func50,ntmps50;go_wp2_with fail;generalize ((w.alloc (.cells #[.bool S,.slice J N F,.bool R,.slice T G C,.int .i64 (s.m 0),.int .i64 (s.m 1),.int .i64 (s.m 2),.int .i64 (s.m 3),.int .i64 (s.m 4),.int .i64 (s.m 5),.int .i64 (s.m 6),.int .i64 (s.m 7)] 114)).alloc (.cells #[.bool X,.slice Y Z U,.bool A,.slice B I E,.int .i64 (t.m 0),.int .i64 (t.m 1),.int .i64 (t.m 2),.int .i64 (t.m 3),.int .i64 (t.m 4),.int .i64 (t.m 5),.int .i64 (t.m 6),.int .i64 (t.m 7)] 114))=P at *;refine(A0T S R J T N F G C X A Y B Z U I E s.c t.c _ h.out q.out).mono ?_;rintro e g ⟨rfl,L⟩;rw[K.out];replace L:=Af L;clear heq;cases f
  .go_wp2
   exact Zjb
  .go_wp2
   exact Zjb
 .have n:LU s.m t.m=false:=by simpa using x
  rw[n]at heq;have V:ZH s t=false:=by unfold ZH;rw[n,Bool.false_and]
  rw[V];clear V x n;go_enter func50,ntmps50;go_wp2;go_ret;exact⟨rfl,Q.out⟩
noncomputable def Hg (P Q:List Tm):Bool:=@decide (SameL P Q) (Classical.propDecidable _)
theorem Ix:Hg vb uf=true↔SameL vb uf:=by
 unfold Hg;exact @decide_eq_true_iff _ (Classical.propDecidable _)
theorem Ja(h:¬SameL vb uf):Hg vb uf=false:=by
 rw[YdH];exact λV=>h (Ix.1 V)
theorem In:∀{P Q:List Tm},SameL P Q↔P.length=Q.length/\∀k,k<P.length->ZH (Bv P k) (Bv Q k)=true
 |[],[]=>by simp[SameL]
 |[],t::Q=>by simp[SameL]
 |s::P,[]=>by simp[SameL]
 |s::P,t::Q=>by
  have v:=In (P:=P) (Q:=Q);constructor
  .rintro ⟨q,A,K⟩
   obtain⟨Y,n⟩:=v.1 K;refine⟨by simp[Y],λk B=>?_⟩
   match k with
   |0=>exact Xp.2 ⟨A,q⟩
   |k+1=>exact n k Zdn
  .rintro ⟨q,A⟩
   have d:=Xp.1 (A 0 ZbV);exact⟨d.2,d.1,v.2 ⟨by simpa using q,λk B=>A (k+1) Zdn⟩⟩
theorem PolAt.form{v:Value}{P:List Tm}(h:PolAt w v P):∃A c,v=.slice A P.length c:=by
 obtain⟨A,c,q,_⟩:=h;exact⟨A,c,q⟩
theorem A3N(v u:Value)(P Q:List Tm)(w:World)(h:PolAt w v P)(V:PolAt w u Q) :
  Calls prog 17 #[v,u] w λe q=>e=.returned (.bool (Hg P Q))/\Ext w q:=by
 obtain⟨A,cP,rfl⟩:=h.form;obtain⟨L,cQ,rfl⟩:=V.form;replace h:=Af h;replace V:=Af V;obtain⟨N,I⟩:∃N,N=P.length:=⟨_,rfl⟩;obtain⟨M,d⟩:∃M,M=Q.length:=⟨_,rfl⟩;rw[<-I]at h ⊢;rw[<-d]at V ⊢;by_cases n:N=M
 .subst n
  replace I:=Af I;replace d:=Af d;go_enter func17,ntmps17;go_wp2;go_loopw [5] (λi wr=>∃k:Nat,k<=N/\i=.int .i64 k/\Hid ((∀i,i<k->ZH (Bv P i) (Bv Q i)=true)/\Ext w wr)) (λi _=>N-(intOf i).toNat)
  case atStart=>exact⟨0,by omega,rfl,λi J=>absurd J (Ybg _),Ext.refl _⟩
  case round=>
   obtain⟨k,B,rfl,W⟩:=hrel;by_cases O:k<N
   .have E:decide (k<N)=true:=by simpa using O
    obtain⟨_,_,_,y,j,bx,xa,Ax,H,nx,x,xe,xc,rfl,xx,xj,xs⟩:=h.out.term (k:=k) (by rw[<-I.out];exact O);obtain⟨_,_,_,z,f,bz,xb,Ay,R,ny,U,xf,xd,rfl,xy,xh,xt⟩:=V.out.term (k:=k) (by rw[<-d.out];exact O);replace xs:=Af xs;replace xt:=Af xt;have r:Hid (wr.cell? ⟨y,j+k*12,none⟩=some (.bool bx)):=W.out.2.cellv (xj 0 ZbG);have o:Hid (wr.cell? ⟨y,j+k*12+1,none⟩=some (.slice Ax nx x)):=W.out.2.cellv (xj 1 ZbG);have x2:Hid (wr.cell? ⟨y,j+k*12+2,none⟩=some (.bool xa)):=W.out.2.cellv (xj 2 ZbG);have x3:Hid (wr.cell? ⟨y,j+k*12+3,none⟩=some (.slice H xe xc)):=W.out.2.cellv (xj 3 ZbG);have x4:Hid (wr.cell? ⟨y,j+k*12+4,none⟩=some (.int .i64 ((Bv P k).m 0))):=W.out.2.cellv (xj 4 ZbG);have x5:Hid (wr.cell? ⟨y,j+k*12+5,none⟩=some (.int .i64 ((Bv P k).m 1))):=W.out.2.cellv (xj 5 ZbG);have x6:Hid (wr.cell? ⟨y,j+k*12+6,none⟩=some (.int .i64 ((Bv P k).m 2))):=W.out.2.cellv (xj 6 ZbG);have x7:Hid (wr.cell? ⟨y,j+k*12+7,none⟩=some (.int .i64 ((Bv P k).m 3))):=W.out.2.cellv (xj 7 ZbG);have x8:Hid (wr.cell? ⟨y,j+k*12+8,none⟩=some (.int .i64 ((Bv P k).m 4))):=W.out.2.cellv (xj 8 ZbG);have x9:Hid (wr.cell? ⟨y,j+k*12+9,none⟩=some (.int .i64 ((Bv P k).m 5))):=W.out.2.cellv (xj 9 ZbG);have xA:Hid (wr.cell? ⟨y,j+k*12+10,none⟩=some (.int .i64 ((Bv P k).m 6))):=W.out.2.cellv (xj 10 ZbG);have xB:Hid (wr.cell? ⟨y,j+k*12+11,none⟩=some (.int .i64 ((Bv P k).m 7))):=W.out.2.cellv (xj 11 ZbG);have y0:Hid (wr.cell? ⟨z,f+k*12,none⟩=some (.bool bz)):=W.out.2.cellv (xh 0 ZbG);have y1:Hid (wr.cell? ⟨z,f+k*12+1,none⟩=some (.slice Ay ny U)):=W.out.2.cellv (xh 1 ZbG);have y2:Hid (wr.cell? ⟨z,f+k*12+2,none⟩=some (.bool xb)):=W.out.2.cellv (xh 2 ZbG);have y3:Hid (wr.cell? ⟨z,f+k*12+3,none⟩=some (.slice R xf xd)):=W.out.2.cellv (xh 3 ZbG);have y4:Hid (wr.cell? ⟨z,f+k*12+4,none⟩=some (.int .i64 ((Bv Q k).m 0))):=W.out.2.cellv (xh 4 ZbG);have y5:Hid (wr.cell? ⟨z,f+k*12+5,none⟩=some (.int .i64 ((Bv Q k).m 1))):=W.out.2.cellv (xh 5 ZbG);have y6:Hid (wr.cell? ⟨z,f+k*12+6,none⟩=some (.int .i64 ((Bv Q k).m 2))):=W.out.2.cellv (xh 6 ZbG);have y7:Hid (wr.cell? ⟨z,f+k*12+7,none⟩=some (.int .i64 ((Bv Q k).m 3))):=W.out.2.cellv (xh 7 ZbG);have y8:Hid (wr.cell? ⟨z,f+k*12+8,none⟩=some (.int .i64 ((Bv Q k).m 4))):=W.out.2.cellv (xh 8 ZbG);have y9:Hid (wr.cell? ⟨z,f+k*12+9,none⟩=some (.int .i64 ((Bv Q k).m 5))):=W.out.2.cellv (xh 9 ZbG);have xC:Hid (wr.cell? ⟨z,f+k*12+10,none⟩=some (.int .i64 ((Bv Q k).m 6))):=W.out.2.cellv (xh 10 ZbG);have xD:Hid (wr.cell? ⟨z,f+k*12+11,none⟩=some (.int .i64 ((Bv Q k).m 7))):=W.out.2.cellv (xh 11 ZbG);clear xj xh xx xy
    have xz:Hid (ZH (Bv P k) (Bv Q k)=true->∀i,i<k+1->ZH (Bv P i) (Bv Q i)=true):=Af λB i J=>by
     by_cases e:i=k
     .rw [e];exact B
     .exact W.out.1 i ZbG
    have xi:Hid (ZH (Bv P k) (Bv Q k)=false->Hg P Q=false):=Af λB=>Ja λZ=>by
     have:=(In.1 Z).2 k (by rw[<-I.out];exact O);rw[B]at this;cases this
    obtain⟨bb,xg⟩:∃bb,ZH (Bv P k) (Bv Q k)=bb:=⟨_,rfl⟩;rw[xg]at xz xi;replace xg:=Af xg;replace W:=Af W.out;generalize Bv P k=s at *;generalize Bv Q k=t at *;go_upto_region 6 with(fail)
    have i1:(k:Int)<N:=by omega
    refine wp_region_v ZbK [[], [], [(17, 0), (18, 1)], [(19, 2)], [], [], [(21, 4), (22, 5)], [(23, 6)], [(20, 3), (24, 7)], [(25, 8)]] [[], [], [0, 1], [0, 1, 2], [], [], [4, 5], [4, 5, 6], [0, 1, 2, 3, 4, 5, 6, 7], [0, 1, 2, 3, 4, 5, 6, 7, 8]]
     [λv _=>v=.slice (some ⟨y,j,none⟩) N cP,λv _=>v=.int .i64 (k:Int),λv _=>v=.pointer (some ⟨y,j+k*12,none⟩),λv _=>v=.agg #[.bool bx,.slice Ax nx x,.bool xa,.slice H xe xc,.int .i64 (s.m 0),.int .i64 (s.m 1),.int .i64 (s.m 2),.int .i64 (s.m 3),.int .i64 (s.m 4),.int .i64 (s.m 5),.int .i64 (s.m 6),.int .i64 (s.m 7)],λv _=>v=.slice (some ⟨z,f,none⟩) N cQ,λv _=>v=.int .i64 (k:Int),λv _=>v=.pointer (some ⟨z,f+k*12,none⟩),λv _=>v=.agg #[.bool bz,.slice Ay ny U,.bool xb,.slice R xf xd,.int .i64 (t.m 0),.int .i64 (t.m 1),.int .i64 (t.m 2),.int .i64 (t.m 3),.int .i64 (t.m 4),.int .i64 (t.m 5),.int .i64 (t.m 6),.int .i64 (t.m 7)],λv _=>v=.bool bb,λv _=>v=.bool (!bb)]
     rfl ZbK ZbK ?stab ?steps ?fin
    case stab=>exact .cons (Stab.eq _) (.cons (Stab.eq _) (.cons (Stab.eq _) (.cons (Stab.eq _) (.cons (Stab.eq _) (.cons (Stab.eq _) (.cons (Stab.eq _) (.cons (Stab.eq _) (.cons (Stab.eq _) (.cons (Stab.eq _) .nil)))))))))
    case steps=>
     refine .cons ?s0 (.cons ?s1 (.cons ?s2 (.cons ?s3 (.cons ?s4 (.cons ?s5 (.cons ?s6 (.cons ?s7 (.cons ?s8 (.cons ?s9 .nil)))))))))
     case s0=>
      intro q G C B l F p;have Y:G (.tmp 0)=.slice (some ⟨y,j,none⟩) N cP:=l 0 ZbL;exact AB ZeV rfl
     case s1=>
      intro q G C B l F p;exact ZhG
     case s2=>
      intro q G C B l F p;have xl:G (.tmp 17)=.slice (some ⟨y,j,none⟩) N cP:=B.1 _ rfl;have xm:G (.tmp 18)=.int .i64 (k:Int):=B.2.1 _ rfl;exact AB (by simp[execOp,xl,xm,i1,go_sem]) rfl
     case s3=>
      intro q G C B l F p;have xn:G (.tmp 19)=.pointer (some ⟨y,j+k*12,none⟩):=B.1 _ rfl;have X:q.cell? ⟨y,j+k*12,none⟩=some (.bool bx):=C.cellv r.out;have K:q.cell? ⟨y,j+k*12+1,none⟩=some (.slice Ax nx x):=C.cellv o.out;have T:q.cell? ⟨y,j+k*12+2,none⟩=some (.bool xa):=C.cellv x2.out;have a:q.cell? ⟨y,j+k*12+3,none⟩=some (.slice H xe xc):=C.cellv x3.out;have m:q.cell? ⟨y,j+k*12+4,none⟩=some (.int .i64 (s.m 0)):=C.cellv x4.out;have c5:q.cell? ⟨y,j+k*12+5,none⟩=some (.int .i64 (s.m 1)):=C.cellv x5.out;have c6:q.cell? ⟨y,j+k*12+6,none⟩=some (.int .i64 (s.m 2)):=C.cellv x6.out;have c7:q.cell? ⟨y,j+k*12+7,none⟩=some (.int .i64 (s.m 3)):=C.cellv x7.out;have c8:q.cell? ⟨y,j+k*12+8,none⟩=some (.int .i64 (s.m 4)):=C.cellv x8.out;have c9:q.cell? ⟨y,j+k*12+9,none⟩=some (.int .i64 (s.m 5)):=C.cellv x9.out;have xq:q.cell? ⟨y,j+k*12+10,none⟩=some (.int .i64 (s.m 6)):=C.cellv xA.out;have xr:q.cell? ⟨y,j+k*12+11,none⟩=some (.int .i64 (s.m 7)):=C.cellv xB.out;exact AB (by simp[execOp,xn,X,K,T,a,m,c5,c6,c7,c8,c9,xq,xr,go_sem]) rfl
     case s4=>
      intro q G C B l F p;have b:G (.tmp 1)=.slice (some ⟨z,f,none⟩) N cQ:=l 1 ZbL;exact AB (by simp[execOp,b,go_sem]) rfl
     case s5=>
      intro q G C B l F p;exact ZhG
     case s6=>
      intro q G C B l F p;have xo:G (.tmp 21)=.slice (some ⟨z,f,none⟩) N cQ:=B.1 _ rfl;have xp:G (.tmp 22)=.int .i64 (k:Int):=B.2.1 _ rfl;exact AB (by simp[execOp,xo,xp,i1,go_sem]) rfl
     case s7=>
      intro q G C B l F p;have xu:G (.tmp 23)=.pointer (some ⟨z,f+k*12,none⟩):=B.1 _ rfl;have X:q.cell? ⟨z,f+k*12,none⟩=some (.bool bz):=C.cellv y0.out;have K:q.cell? ⟨z,f+k*12+1,none⟩=some (.slice Ay ny U):=C.cellv y1.out;have T:q.cell? ⟨z,f+k*12+2,none⟩=some (.bool xb):=C.cellv y2.out;have a:q.cell? ⟨z,f+k*12+3,none⟩=some (.slice R xf xd):=C.cellv y3.out;have m:q.cell? ⟨z,f+k*12+4,none⟩=some (.int .i64 (t.m 0)):=C.cellv y4.out;have c5:q.cell? ⟨z,f+k*12+5,none⟩=some (.int .i64 (t.m 1)):=C.cellv y5.out;have c6:q.cell? ⟨z,f+k*12+6,none⟩=some (.int .i64 (t.m 2)):=C.cellv y6.out;have c7:q.cell? ⟨z,f+k*12+7,none⟩=some (.int .i64 (t.m 3)):=C.cellv y7.out;have c8:q.cell? ⟨z,f+k*12+8,none⟩=some (.int .i64 (t.m 4)):=C.cellv y8.out;have c9:q.cell? ⟨z,f+k*12+9,none⟩=some (.int .i64 (t.m 5)):=C.cellv y9.out;have xq:q.cell? ⟨z,f+k*12+10,none⟩=some (.int .i64 (t.m 6)):=C.cellv xC.out;have xr:q.cell? ⟨z,f+k*12+11,none⟩=some (.int .i64 (t.m 7)):=C.cellv xD.out;exact AB (by simp[execOp,xu,X,K,T,a,m,c5,c6,c7,c8,c9,xq,xr,go_sem]) rfl
     case s8=>
      intro q G C B l F p;have xk:G (.tmp 20)=.agg #[.bool bx,.slice Ax nx x,.bool xa,.slice H xe xc,.int .i64 (s.m 0),.int .i64 (s.m 1),.int .i64 (s.m 2),.int .i64 (s.m 3),.int .i64 (s.m 4),.int .i64 (s.m 5),.int .i64 (s.m 6),.int .i64 (s.m 7)]:=B.1 _ rfl;have xv:G (.tmp 24)=.agg #[.bool bz,.slice Ay ny U,.bool xb,.slice R xf xd,.int .i64 (t.m 0),.int .i64 (t.m 1),.int .i64 (t.m 2),.int .i64 (t.m 3),.int .i64 (t.m 4),.int .i64 (t.m 5),.int .i64 (t.m 6),.int .i64 (t.m 7)]:=B.2.1 _ rfl;refine Cz (by simp[execOp,resolve,invoke,p,xk,xv,go_sem]) (MB bx xa Ax H nx x xe xc bz xb Ay R ny U xf xd s t _ (xs.out.ext (W.out.2.trans ((Ext.refl _).drew.trans C))) (xt.out.ext (W.out.2.trans ((Ext.refl _).drew.trans C)))) ?_;rintro e g ⟨rfl,S⟩;exact⟨_,rfl,S,by rw[xg.out]⟩
     case s9=>
      intro q G C B l F p;have xw:G (.tmp 25)=.bool bb:=B.1 _ rfl;exact AB (by simp[execOp,xw,go_sem]) rfl
    case fin=>
     intro gf q C hF;have e9:=hF 9 _ rfl;simp only[Yay,Ybk,Nat.reduceAdd,Ybf,YaP,Ybe,YbR,Fw,Act.put,YaW,Ybw,YbD,e9];replace C:=Af (W.out.2.trans ((Ext.refl wr).drew.trans C));clear hF e9 i1;cases bb
     .go_wp2
      go_ret;exact⟨by rw[xi.out (by first | rfl | trivial)];rfl,C.out⟩
     .go_wp2
      exact⟨⟨k+1,O,by simp,xz.out (by first | rfl | trivial),C.out⟩,by simp[intOf];omega⟩
   .obtain rfl:k=N:=by omega
    have E:decide (k<k)=false:=by simp
    go_wp2;go_ret;exact⟨by rw[Ix.2 (In.2 ⟨by rw[<-I.out,<-d.out],λi J=>W.out.1 i (by rw[I.out];exact J)⟩)];rfl,W.out.2⟩
 .rw [Ja λZ=>n (by rw [I, d]; exact Z.length)]
  have xE:¬((N:Int)=M):=by omega
  replace n:=Af n;clear I d;go_enter func17,ntmps17;go_wp2;go_ret;exact⟨rfl,Ext.refl _⟩
def TX(c:Rat)(m:Nat->Int)(P:List Tm):List Tm:=P.map λt=>⟨c*t.c,CT m t.m⟩
@[simp] theorem ZX(c:Rat)(m:Nat->Int)(P:List Tm):(TX c m P).length=P.length:=Yap ..
theorem Uy(f:e->Tm->e)(b:e)(h:n<vb.length):(vb.take (n+1)).foldl f b=f ((vb.take n).foldl f b) (Bv vb n):=by
 rw[<-Rn h,Yev];rfl
def OC(P:List Tm):Nat:=P.foldl (λs t=>s ||| suppTo t.m 8) 0
def RA(a:Nat->Int)(k:Nat)(z:Int):Nat->Int:=λj=>if j=k then z else a j
theorem In8.zero:In8 (λ_=>0) 0 65535:=λi _=>⟨YbM _,by show(0:Int)<=65535;omega⟩
theorem Hk(a:Nat->Int):CT (λ_=>0) a=a:=by funext i;simp[CT]
theorem DI:vD.num.sign=0↔vD=0:=by rw[Ydk];exact YeD
theorem A1W(h:vD≠0):vD.num≠0:=λe=>h (YeD.1 e)
