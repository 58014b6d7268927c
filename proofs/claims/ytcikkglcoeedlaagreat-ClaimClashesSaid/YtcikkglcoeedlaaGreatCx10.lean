/- Part 10 of the proof of claimClashes_holds. No condition. -/
import Derived.Great.BuildSlice
import Derived.Test.YtcikkglcoeedlaaGreatCx5
import Derived.Test.YtcikkglcoeedlaaGreatCx9
set_option linter.unusedSimpArgs false
set_option linter.unusedVariables false
set_option maxRecDepth 100000
set_option maxHeartbeats 1600000
namespace Go.Proofs.YtcikkglcoeedlaaGreat
open Go.RowKit
variable{vj uf:List Tm}{n b:Nat}{vV:Rat}{j:Type}
def tmc(b x:Bool)(A k:Option Addr)(n c e r:Nat)(a:Nat->Int):Array Value:=#[.bool b,.slice A n c,.bool x,.slice k e r,.int .i64 (a 0),.int .i64 (a 1),.int .i64 (a 2),.int .i64 (a 3),.int .i64 (a 4),.int .i64 (a 5),.int .i64 (a 6),.int .i64 (a 7)]
def TmV(w:World)(Z:Array Value)(t:Tm):Prop:=∃(b x:Bool) (A k:Option Addr) (n c e r:Nat),Z=tmc b x A k n c e r t.m/\IsRat w (.bool b) (.slice A n c) (.bool x) (.slice k e r) t.c
def Cm(P:List Tm)(k:Nat):Tm:=P.getD k default
theorem DM(h:n<vj.length):Cm vj n∈vj:=by
 unfold Cm;exact ZeS
theorem GZ(h:n<vj.length):vj.drop n=Cm vj n::vj.drop (n+1):=by
 unfold Cm;rw[List.getD_eq_getElem?_getD,List.getElem?_eq_getElem h,List.drop_eq_getElem_cons h];rfl
theorem Oc(h:n<vj.length):vj.take n++[Cm vj n]=vj.take (n+1):=by
 rw[List.take_succ_eq_append_getElem h];exact Zhw
def A5X(w:World)(v:Value)(P:List Tm):Prop:=
 ∃(A:Option Addr) (c:Nat),v=.slice A P.length c/\P.length<=c/\c<=9223372036854775807 /\
  (0<P.length->∃(b o:Nat) (Z:Array Value) (G:Nat×Nat),A=some ⟨b,o,none⟩/\w.heap[b]? = some (.cells Z 114 G)/\∀k,k<P.length->∃u,TmV w u (Cm P k)/\∀j,j<12->Z[o+k*12+j]? = u[j]?)
def PSz(P:List Tm)(N:Nat):Prop:=∀t∈P,RSz t.c N
theorem PSz.mono(h:PSz vj n)(s:n<=b):PSz vj b:=λt M=>(h t M).mono s
def PIn(P:List Tm)(b K:Int):Prop:=∀t∈P,In8 t.m b K
theorem PIn.mono{a b c d:Int}(h:PIn vj a b)(u:c<=a)(A:b<=d):PIn vj c d:=λt M=>(h t M).mono u A
theorem A1a(h:Ao n=Ao b):n=b:=by rw[<-AB n,<-AB b,h]
theorem Rt(b R:Bool)(A g:Option Addr)(n c M r:Nat)(x y:Int)(w:World)(h:IsInt w (.bool b) (.slice A n c) x)(S:IsInt w (.bool R) (.slice g M r) y) :
  Calls Tryz.prog 218 #[.agg #[.bool b,.slice A n c],.agg #[.bool R,.slice g M r]] w λe O=>e=.returned (.bool (decide (x=y)))/\Ext w O:=by
 have q:Hid (Blk ((w.alloc (.cells #[.bool b,.slice A n c] 109)).alloc (.cells #[.bool R,.slice g M r] 109)) w.heap.size 109 #[.bool b,.slice A n c]):=(Blk.new _ _ _).alloc _;have xc:Hid (Blk ((w.alloc (.cells #[.bool b,.slice A n c] 109)).alloc (.cells #[.bool R,.slice g M r] 109)) (w.heap.size+1) 109 #[.bool R,.slice g M r]):=ER _ _ ZbK;have I:Hid (Ext w ((w.alloc (.cells #[.bool b,.slice A n c] 109)).alloc (.cells #[.bool R,.slice g M r] 109))):=((Ext.refl _).alloc _).alloc _;obtain⟨B,d,P,t,o,F⟩:=h.2.open_;obtain⟨B',V,xb,s,xg,N⟩:=S.2.open_;injection P with L v U
 subst L;subst U;injection xb with l p J
 subst l;subst J;have G:b=decide (x<0):=by have:=h.1;injection this
 have f:R=decide (y<0):=by have:=S.1;injection this
 replace F:=Ae F;replace N:=Ae N;replace v:=Ae v;replace p:=Ae p;have xf:n<=9223372036854775807:=by have:=v.out;omega
 clear h S t s;by_cases xa:b=R
 .by_cases xj:n=M
  .subst xa;subst xj
   have xh:Hid (x.natAbs=y.natAbs->x=y):=Ae λh=>by
    rw[G]at f;by_cases u:x<0<;>by_cases C:y<0<;>simp[u,C]at f<;>omega
   clear G f;go_enter Tryz.func218,Tryz.ntmps218;go_wp2;generalize ((w.alloc (.cells #[.bool b,.slice A n c] 109)).alloc (.cells #[.bool b,.slice g n r] 109))=wa at *;generalize w.heap.size=z at *;go_loopw [5] (λi wr=>∃k:Nat,k<=n/\i=.int .i64 k/\Hid (Ext wa wr/\∀i,i<k->(Ao x.natAbs).getD i 0=(Ao y.natAbs).getD i 0)) (λi _=>n-(intOf i).toNat)
   case atStart=>exact⟨0,by omega,rfl,Ext.refl _,λi K=>absurd K (Nat.not_lt_zero _)⟩
   case round=>
    obtain⟨k,E,rfl,Z⟩:=hrel;have m:wr.cell? ⟨z,1,none⟩=some (.slice A n c):=Z.out.1.cellv (q.out.cell 1);have j:wr.cell? ⟨z+1,1,none⟩=some (.slice g n r):=Z.out.1.cellv (xc.out.cell 1);by_cases Q:k<n
    .have W:decide (k<n)=true:=by simpa using Q
     obtain⟨gx,ox,rfl,xm,xk⟩:=F.out (by rw[<-v.out];omega);obtain⟨gy,T,rfl,xn,xe⟩:=N.out ZdM;replace xk:wr.cell? ⟨gx,ox+k,none⟩=some (.int .u32 ((Ao x.natAbs).getD k 0:Nat)):=(I.out.trans Z.out.1).cellv (xk k (by rw[<-v.out];omega));replace xe:wr.cell? ⟨gy,T+k,none⟩=some (.int .u32 ((Ao y.natAbs).getD k 0:Nat)):=(I.out.trans Z.out.1).cellv (xe k ZdM);generalize H:(Ao x.natAbs).getD k 0=X at *;generalize hY:(Ao y.natAbs).getD k 0=Y at *;replace H:=Ae H;replace hY:=Ae hY;by_cases xi:X=Y
     .subst xi
      have xp:IntKind.i64.wrap ((k:Int)+1)=(k:Int)+1:=IntWalk.i64_in _ Zbx;go_wp2;go_quiet (fail);go_wp2;refine⟨⟨k+1,Q,by simp,Z.out.1.drewN _,λi K=>?_⟩,by simp[intOf];omega⟩;by_cases e:i=k
      .rw [e,H.out,hY.out]
      .exact Z.out.2 i Zbx
     .have a:¬x=y:=λe=>xi (by rw [<-H.out, <-hY.out, e])
      have xl:¬((X:Int)=Y):=by omega
      replace xi:=Ae xi;go_wp2;go_quiet (fail);go_wp2;go_ret;exact⟨by simp[a],I.out.trans (Z.out.1.drewN _)⟩
    .obtain rfl:k=n:=by omega
     have W:decide (k<k)=false:=by simp
     have xd : x = y := xh.out (A1a (List.ext_getElem (by rw [← v.out, ← p.out]) fun i u C => by
      have:=Z.out.2 i (by rw[v.out];exact u);simpa[List.getD_eq_getElem?_getD,List.getElem?_eq_getElem u,List.getElem?_eq_getElem C]using this))
     replace xd:=Ae xd;go_wp2;go_ret;exact⟨by simp[xd.out],I.out.trans Z.out.1⟩
  .subst xa
   have a:¬x=y:=λe=>xj (by rw[v.out,p.out,e]);have xo:¬((n:Int)=M):=by omega
   replace xj:=Ae xj;replace a:=Ae a;clear G f;go_enter Tryz.func218,Tryz.ntmps218;go_wp2;go_ret;exact⟨by simp[a.out],I.out⟩
 .have a:¬x=y:=λe=>xa (by rw [G, f, e])
  replace a:=Ae a;clear G f;cases b<;>cases R
  .exact absurd rfl xa
  .exact ZaG
  .exact ZaG
  .exact absurd rfl xa
theorem Wj(s b:Bool)(t c:Option Addr)(v F N L:Nat)(R G:Bool)(x g:Option Addr)(y K Q M:Nat)(p q:Rat)(w:World)(h:IsRat w (.bool s) (.slice t v F) (.bool b) (.slice c N L) p)(d:IsRat w (.bool R) (.slice x y K) (.bool G) (.slice g Q M) q) :
  Calls Tryz.prog 117 #[.agg #[.bool s,.slice t v F,.bool b,.slice c N L],.agg #[.bool R,.slice x y K,.bool G,.slice g Q M]] w λe O=>e=.returned (.bool (decide (p=q)))/\Ext w O:=by
 have E:Hid (Blk ((w.alloc (.cells #[.bool s,.slice t v F,.bool b,.slice c N L] 111)).alloc (.cells #[.bool R,.slice x y K,.bool G,.slice g Q M] 111)) w.heap.size 111 #[.bool s,.slice t v F,.bool b,.slice c N L]):=(Blk.new _ _ _).alloc _;have V:Hid (Blk ((w.alloc (.cells #[.bool s,.slice t v F,.bool b,.slice c N L] 111)).alloc (.cells #[.bool R,.slice x y K,.bool G,.slice g Q M] 111)) (w.heap.size+1) 111 #[.bool R,.slice x y K,.bool G,.slice g Q M]):=ER _ _ ZbK;have X:Hid (Ext w ((w.alloc (.cells #[.bool s,.slice t v F,.bool b,.slice c N L] 111)).alloc (.cells #[.bool R,.slice x y K,.bool G,.slice g Q M] 111))):=((Ext.refl _).alloc _).alloc _;replace h:=Ae (h.ext X.out);replace d:=Ae (d.ext X.out);go_enter Tryz.func117,Tryz.ntmps117;go_wp2_with fail;generalize ((w.alloc (.cells #[.bool s,.slice t v F,.bool b,.slice c N L] 111)).alloc (.cells #[.bool R,.slice x y K,.bool G,.slice g Q M] 111))=k at *;generalize w.heap.size=f at *;refine(Rt _ _ _ _ _ _ _ _ p.num q.num _ h.out.1 d.out.1).mono ?_;rintro e a ⟨rfl,I⟩;have u:a.cell? ⟨f,2,none⟩=some (.bool b):=I.cellv (E.out.cell 2);have A:a.cell? ⟨f,3,none⟩=some (.slice c N L):=I.cellv (E.out.cell 3);have i:a.cell? ⟨f+1,2,none⟩=some (.bool G):=I.cellv (V.out.cell 2);have B:a.cell? ⟨f+1,3,none⟩=some (.slice g Q M):=I.cellv (V.out.cell 3);replace I:=Ae I;by_cases U:p.num=q.num
 .have W:decide (p.num=q.num)=true:=by simpa using U
  rw[W];replace U:=Ae U;clear W;go_wp2_with fail;refine(Rt _ _ _ _ _ _ _ _ (p.den:Int) (q.den:Int) _ (h.out.2.ext I.out) (d.out.2.ext I.out)).mono ?_;rintro e C ⟨rfl,z⟩
  have Y:decide ((p.den:Int)=q.den)=decide (p=q):=by
   by_cases j:p=q
   .subst j;simp
   .have:¬((p.den:Int)=q.den):=λe=>j (Rat.ext U.out Zbx)
    simp[this,j]
  obtain⟨S,Z⟩:∃S,decide (p=q)=S:=⟨_,rfl⟩;rw[Y,Z];replace Z:=Ae Z;replace z:=Ae z;clear Y;cases S
  .exact ZaH
  .exact ZaH
 .have W:decide (p.num=q.num)=false:=by simpa using U
  rw[W]
  have Y:decide (p=q)=false:=by
   simp only[decide_eq_false_iff_not];exact λe=>U Zep
  replace Y:=Ae Y;clear W U;go_wp2;go_ret;exact⟨by rw[Y.out];rfl,X.out.trans I.out⟩
noncomputable def tmB (s t:Tm):Bool:=Na s.m t.m&&decide (s.c=t.c)
theorem To{s t:Tm}:tmB s t=true↔Eqv s.m t.m/\s.c=t.c:=by
 unfold tmB;rw[Bool.and_eq_true,Ig,decide_eq_true_eq];exact Iff.rfl
theorem Qp(M b:Bool)(G c:Option Addr)(v A C B:Nat)(N f:Bool)(x g:Option Addr)(y K F i:Nat)(s t:Tm)(w:World)(h:IsRat w (.bool M) (.slice G v A) (.bool b) (.slice c C B) s.c)(d:IsRat w (.bool N) (.slice x y K) (.bool f) (.slice g F i) t.c) :
  Calls Tryz.prog 50 #[.agg #[.bool M,.slice G v A,.bool b,.slice c C B,.int .i64 (s.m 0),.int .i64 (s.m 1),.int .i64 (s.m 2),.int .i64 (s.m 3),.int .i64 (s.m 4),.int .i64 (s.m 5),.int .i64 (s.m 6),.int .i64 (s.m 7)],.agg #[.bool N,.slice x y K,.bool f,.slice g F i,.int .i64 (t.m 0),.int .i64 (t.m 1),.int .i64 (t.m 2),.int .i64 (t.m 3),.int .i64 (t.m 4),.int .i64 (t.m 5),.int .i64 (t.m 6),.int .i64 (t.m 7)]] w λe O=>e=.returned (.bool (tmB s t))/\Ext w O:=by
 have E:Hid (Blk ((w.alloc (.cells #[.bool M,.slice G v A,.bool b,.slice c C B,.int .i64 (s.m 0),.int .i64 (s.m 1),.int .i64 (s.m 2),.int .i64 (s.m 3),.int .i64 (s.m 4),.int .i64 (s.m 5),.int .i64 (s.m 6),.int .i64 (s.m 7)] 114)).alloc (.cells #[.bool N,.slice x y K,.bool f,.slice g F i,.int .i64 (t.m 0),.int .i64 (t.m 1),.int .i64 (t.m 2),.int .i64 (t.m 3),.int .i64 (t.m 4),.int .i64 (t.m 5),.int .i64 (t.m 6),.int .i64 (t.m 7)] 114)) w.heap.size 114 #[.bool M,.slice G v A,.bool b,.slice c C B,.int .i64 (s.m 0),.int .i64 (s.m 1),.int .i64 (s.m 2),.int .i64 (s.m 3),.int .i64 (s.m 4),.int .i64 (s.m 5),.int .i64 (s.m 6),.int .i64 (s.m 7)]):=(Blk.new _ _ _).alloc _;have R:Hid (Blk ((w.alloc (.cells #[.bool M,.slice G v A,.bool b,.slice c C B,.int .i64 (s.m 0),.int .i64 (s.m 1),.int .i64 (s.m 2),.int .i64 (s.m 3),.int .i64 (s.m 4),.int .i64 (s.m 5),.int .i64 (s.m 6),.int .i64 (s.m 7)] 114)).alloc (.cells #[.bool N,.slice x y K,.bool f,.slice g F i,.int .i64 (t.m 0),.int .i64 (t.m 1),.int .i64 (t.m 2),.int .i64 (t.m 3),.int .i64 (t.m 4),.int .i64 (t.m 5),.int .i64 (t.m 6),.int .i64 (t.m 7)] 114)) (w.heap.size+1) 114 #[.bool N,.slice x y K,.bool f,.slice g F i,.int .i64 (t.m 0),.int .i64 (t.m 1),.int .i64 (t.m 2),.int .i64 (t.m 3),.int .i64 (t.m 4),.int .i64 (t.m 5),.int .i64 (t.m 6),.int .i64 (t.m 7)]):=ER _ _ ZbK;have X:Hid (Ext w ((w.alloc (.cells #[.bool M,.slice G v A,.bool b,.slice c C B,.int .i64 (s.m 0),.int .i64 (s.m 1),.int .i64 (s.m 2),.int .i64 (s.m 3),.int .i64 (s.m 4),.int .i64 (s.m 5),.int .i64 (s.m 6),.int .i64 (s.m 7)] 114)).alloc (.cells #[.bool N,.slice x y K,.bool f,.slice g F i,.int .i64 (t.m 0),.int .i64 (t.m 1),.int .i64 (t.m 2),.int .i64 (t.m 3),.int .i64 (t.m 4),.int .i64 (t.m 5),.int .i64 (t.m 6),.int .i64 (t.m 7)] 114))):=((Ext.refl _).alloc _).alloc _;replace h:=Ae (h.ext X.out);replace d:=Ae (d.ext X.out);have heq:∀W,_:=λW=>Hv s.m t.m W;by_cases u:Na s.m t.m=true
 .rw [u]at heq
  have Y:tmB s t=decide (s.c=t.c):=by unfold tmB;rw[u,Bool.true_and]
  rw[Y];clear Y u;obtain⟨Q,Z⟩:∃Q,decide (s.c=t.c)=Q:=⟨_,rfl⟩;replace Z:=Ae Z;go_enter Tryz.func50,Tryz.ntmps50;go_wp2_with fail;generalize ((w.alloc (.cells #[.bool M,.slice G v A,.bool b,.slice c C B,.int .i64 (s.m 0),.int .i64 (s.m 1),.int .i64 (s.m 2),.int .i64 (s.m 3),.int .i64 (s.m 4),.int .i64 (s.m 5),.int .i64 (s.m 6),.int .i64 (s.m 7)] 114)).alloc (.cells #[.bool N,.slice x y K,.bool f,.slice g F i,.int .i64 (t.m 0),.int .i64 (t.m 1),.int .i64 (t.m 2),.int .i64 (t.m 3),.int .i64 (t.m 4),.int .i64 (t.m 5),.int .i64 (t.m 6),.int .i64 (t.m 7)] 114))=z at *;refine(Wj M b G c v A C B N f x g y K F i s.c t.c _ h.out d.out).mono ?_;rintro e a ⟨rfl,I⟩;rw[Z.out];replace I:=Ae I;clear heq;cases Q
  .go_wp2
   exact ZgN
  .go_wp2
   exact ZgN
 .have L:Na s.m t.m=false:=Zhe
  rw[L]at heq;have Y:tmB s t=false:=by unfold tmB;rw[L,Bool.false_and]
  rw[Y];clear Y u L;go_enter Tryz.func50,Tryz.ntmps50;go_wp2;go_ret;exact⟨rfl,X.out⟩
noncomputable def Fa (P Q:List Tm):Bool:=@decide (SameL P Q) (Classical.propDecidable _)
theorem Ky:Fa vj uf=true↔SameL vj uf:=by
 unfold Fa;exact @decide_eq_true_iff _ (Classical.propDecidable _)
theorem MN(h:¬SameL vj uf):Fa vj uf=false:=by
 rw[Bool.eq_false_iff];exact λd=>h (Ky.1 d)
theorem JH:∀{P Q:List Tm},SameL P Q↔P.length=Q.length/\∀k,k<P.length->tmB (Cm P k) (Cm Q k)=true
 |[],[]=>by simp[SameL]
 |[],t::Q=>by simp[SameL]
 |s::P,[]=>by simp[SameL]
 |s::P,t::Q=>by
  have n:=JH (P:=P) (Q:=Q);constructor
  .rintro ⟨u,A,I⟩
   obtain⟨V,m⟩:=n.1 I;refine⟨by simp[V],λk B=>?_⟩
   match k with
   |0=>exact To.2 ⟨A,u⟩
   |k+1=>exact m k Zck
  .rintro ⟨u,A⟩
   have g:=To.1 (A 0 ZbK);exact⟨g.2,g.1,n.2 ⟨by simpa using u,λk B=>A (k+1) Zck⟩⟩
def Vc(c:Rat)(m:Nat->Int)(P:List Tm):List Tm:=P.map λt=>⟨c*t.c,Cs m t.m⟩
@[simp] theorem Vn(c:Rat)(m:Nat->Int)(P:List Tm):(Vc c m P).length=P.length:=List.length_map ..
theorem Rb(f:j->Tm->j)(b:j)(h:n<vj.length):(vj.take (n+1)).foldl f b=f ((vj.take n).foldl f b) (Cm vj n):=by
 rw[<-Oc h,List.foldl_append];rfl
def RJ(P:List Tm):Nat:=P.foldl (λs t=>s ||| suppTo t.m 8) 0
def On(a:Nat->Int)(k:Nat)(z:Int):Nat->Int:=λj=>if j=k then z else a j
theorem In8.zero:In8 (λ_=>0) 0 65535:=λi _=>⟨Int.le_refl _,by show(0:Int)<=65535;omega⟩
theorem Qv(a:Nat->Int):Cs (λ_=>0) a=a:=by funext i;simp[Cs]
theorem FF:vV.num.sign=0↔vV=0:=by rw[Int.sign_eq_zero_iff_zero];exact Rat.num_eq_zero
theorem Xv(h:vV≠0):vV.num≠0:=λe=>h (Rat.num_eq_zero.1 e)
end Go.Proofs.YtcikkglcoeedlaaGreat
