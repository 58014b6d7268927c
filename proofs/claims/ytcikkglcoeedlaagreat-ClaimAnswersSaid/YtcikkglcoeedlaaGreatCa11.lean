/- Part 11 of the proof of claimAnswers_holds. No condition. -/
import Derived.Great.BuildSlice
import Derived.Test.YtcikkglcoeedlaaGreatCa6
import Derived.Test.YtcikkglcoeedlaaGreatCa10
set_option linter.unusedSimpArgs false
set_option linter.unusedVariables false
set_option maxRecDepth 100000
set_option maxHeartbeats 1600000
namespace Go.Proofs.YtcikkglcoeedlaaGreat
open Go.RowKit
variable{vi ud:List Tm}{n b:Nat}{vL:Rat}{e:Type}
def tmc(b r:Bool)(A G:Option Addr)(n c Y f:Nat)(a:Nat->Int):Array Value:=#[.bool b,.slice A n c,.bool r,.slice G Y f,.int .i64 (a 0),.int .i64 (a 1),.int .i64 (a 2),.int .i64 (a 3),.int .i64 (a 4),.int .i64 (a 5),.int .i64 (a 6),.int .i64 (a 7)]
def TmV(w:World)(a:Array Value)(t:Tm):Prop:=∃(b r:Bool) (A G:Option Addr) (n c Y f:Nat),a=tmc b r A G n c Y f t.m/\IsRat w (.bool b) (.slice A n c) (.bool r) (.slice G Y f) t.c
def BJ(P:List Tm)(k:Nat):Tm:=P.getD k default
theorem CV(h:n<vi.length):BJ vi n∈vi:=by
 unfold BJ;exact Zfz
theorem FF(h:n<vi.length):vi.drop n=BJ vi n::vi.drop (n+1):=by
 unfold BJ;rw[List.getD_eq_getElem?_getD,List.getElem?_eq_getElem h,List.drop_eq_getElem_cons h];rfl
theorem OT(h:n<vi.length):vi.take n++[BJ vi n]=vi.take (n+1):=by
 rw[List.take_succ_eq_append_getElem h];exact ZiF
def A6Z(w:World)(v:Value)(P:List Tm):Prop:=
 ∃(A:Option Addr) (c:Nat),v=.slice A P.length c/\P.length<=c/\c<=9223372036854775807 /\
  (0<P.length->∃(b o:Nat) (a:Array Value) (K:Nat×Nat),A=some ⟨b,o,none⟩/\w.heap[b]? = some (.cells a 114 K)/\∀k,k<P.length->∃N,TmV w N (BJ P k)/\∀j,j<12->a[o+k*12+j]? = N[j]?)
def PSz(P:List Tm)(N:Nat):Prop:=∀t∈P,RSz t.c N
theorem PSz.mono(h:PSz vi n)(A:n<=b):PSz vi b:=λt J=>(h t J).mono A
def PIn(P:List Tm)(r M:Int):Prop:=∀t∈P,In8 t.m r M
theorem PIn.mono{a b c d:Int}(h:PIn vi a b)(A:c<=a)(B:b<=d):PIn vi c d:=λt J=>(h t J).mono A B
theorem A27(h:Aq n=Aq b):n=b:=by rw[<-Aw n,<-Aw b,h]
theorem Si(b r:Bool)(A V:Option Addr)(n c J f:Nat)(x y:Int)(w:World)(h:IsInt w (.bool b) (.slice A n c) x)(a:IsInt w (.bool r) (.slice V J f) y) :
  Calls Tryz.prog 218 #[.agg #[.bool b,.slice A n c],.agg #[.bool r,.slice V J f]] w λe N=>e=.returned (.bool (decide (x=y)))/\Ext w N:=by
 have m:Hid (Blk ((w.alloc (.cells #[.bool b,.slice A n c] 109)).alloc (.cells #[.bool r,.slice V J f] 109)) w.heap.size 109 #[.bool b,.slice A n c]):=(Blk.new _ _ _).alloc _;have xc:Hid (Blk ((w.alloc (.cells #[.bool b,.slice A n c] 109)).alloc (.cells #[.bool r,.slice V J f] 109)) (w.heap.size+1) 109 #[.bool r,.slice V J f]):=Eb _ _ ZbV;have S:Hid (Ext w ((w.alloc (.cells #[.bool b,.slice A n c] 109)).alloc (.cells #[.bool r,.slice V J f] 109))):=((Ext.refl _).alloc _).alloc _;obtain⟨B,d,T,H,t,G⟩:=h.2.open_;obtain⟨B',W,xb,s,xg,O⟩:=a.2.open_;injection T with K v R
 subst K;subst R;injection xb with j l o
 subst j;subst o;have I:b=decide (x<0):=by have:=h.1;injection this
 have p:r=decide (y<0):=by have:=a.1;injection this
 replace G:=Ae G;replace O:=Ae O;replace v:=Ae v;replace l:=Ae l;have xf:n<=9223372036854775807:=by have:=v.out;omega
 clear h a H s;by_cases xa:b=r
 .by_cases xj:n=J
  .subst xa;subst xj
   have xh:Hid (x.natAbs=y.natAbs->x=y):=Ae λh=>by
    rw[I]at p;by_cases C:x<0<;>by_cases E:y<0<;>simp[C,E]at p<;>omega
   clear I p;go_enter Tryz.func218,Tryz.ntmps218;go_wp2;generalize ((w.alloc (.cells #[.bool b,.slice A n c] 109)).alloc (.cells #[.bool b,.slice V n f] 109))=wa at *;generalize w.heap.size=P at *;go_loopw [5] (λi wr=>∃k:Nat,k<=n/\i=.int .i64 k/\Hid (Ext wa wr/\∀i,i<k->(Aq x.natAbs).getD i 0=(Aq y.natAbs).getD i 0)) (λi _=>n-(intOf i).toNat)
   case atStart=>exact⟨0,by omega,rfl,Ext.refl _,λi M=>absurd M (Nat.not_lt_zero _)⟩
   case round=>
    obtain⟨k,F,rfl,L⟩:=hrel;have g:wr.cell? ⟨P,1,none⟩=some (.slice A n c):=L.out.1.cellv (m.out.cell 1);have u:wr.cell? ⟨P+1,1,none⟩=some (.slice V n f):=L.out.1.cellv (xc.out.cell 1);by_cases Q:k<n
    .have Z:decide (k<n)=true:=by simpa using Q
     obtain⟨gx,ox,rfl,xm,xk⟩:=G.out (by rw[<-v.out];omega);obtain⟨gy,U,rfl,xn,xe⟩:=O.out Zeo;replace xk:wr.cell? ⟨gx,ox+k,none⟩=some (.int .u32 ((Aq x.natAbs).getD k 0:Nat)):=(S.out.trans L.out.1).cellv (xk k (by rw[<-v.out];omega));replace xe:wr.cell? ⟨gy,U+k,none⟩=some (.int .u32 ((Aq y.natAbs).getD k 0:Nat)):=(S.out.trans L.out.1).cellv (xe k Zeo);generalize q:(Aq x.natAbs).getD k 0=X at *;generalize hY:(Aq y.natAbs).getD k 0=Y at *;replace q:=Ae q;replace hY:=Ae hY;by_cases xi:X=Y
     .subst xi
      have xp:IntKind.i64.wrap ((k:Int)+1)=(k:Int)+1:=IntWalk.i64_in _ ZbK;go_wp2;go_quiet (fail);go_wp2;refine⟨⟨k+1,Q,by simp,L.out.1.drewN _,λi M=>?_⟩,by simp[intOf];omega⟩;by_cases e:i=k
      .rw [e,q.out,hY.out]
      .exact L.out.2 i ZbK
     .have z:¬x=y:=λe=>xi (by rw [<-q.out, <-hY.out, e])
      have xl:¬((X:Int)=Y):=by omega
      replace xi:=Ae xi;go_wp2;go_quiet (fail);go_wp2;go_ret;exact⟨by simp[z],S.out.trans (L.out.1.drewN _)⟩
    .obtain rfl:k=n:=by omega
     have Z:decide (k<k)=false:=by simp
     have xd : x = y := xh.out (A27 (List.ext_getElem (by rw [← v.out, ← l.out]) fun i C E => by
      have:=L.out.2 i (by rw[v.out];exact C);simpa[List.getD_eq_getElem?_getD,List.getElem?_eq_getElem C,List.getElem?_eq_getElem E]using this))
     replace xd:=Ae xd;go_wp2;go_ret;exact⟨by simp[xd.out],S.out.trans L.out.1⟩
  .subst xa
   have z:¬x=y:=λe=>xj (by rw[v.out,l.out,e]);have xo:¬((n:Int)=J):=by omega
   replace xj:=Ae xj;replace z:=Ae z;clear I p;go_enter Tryz.func218,Tryz.ntmps218;go_wp2;go_ret;exact⟨by simp[z.out],S.out⟩
 .have z:¬x=y:=λe=>xa (by rw [I, p, e])
  replace z:=Ae z;clear I p;cases b<;>cases r
  .exact absurd rfl xa
  .exact ZaG
  .exact ZaG
  .exact absurd rfl xa
theorem Xn(V r:Bool)(O s:Option Addr)(X J t K:Nat)(W v:Bool)(R G:Option Addr)(Y E M y:Nat)(p q:Rat)(w:World)(h:IsRat w (.bool V) (.slice O X J) (.bool r) (.slice s t K) p)(a:IsRat w (.bool W) (.slice R Y E) (.bool v) (.slice G M y) q) :
  Calls Tryz.prog 117 #[.agg #[.bool V,.slice O X J,.bool r,.slice s t K],.agg #[.bool W,.slice R Y E,.bool v,.slice G M y]] w λe N=>e=.returned (.bool (decide (p=q)))/\Ext w N:=by
 have Q:Hid (Blk ((w.alloc (.cells #[.bool V,.slice O X J,.bool r,.slice s t K] 111)).alloc (.cells #[.bool W,.slice R Y E,.bool v,.slice G M y] 111)) w.heap.size 111 #[.bool V,.slice O X J,.bool r,.slice s t K]):=(Blk.new _ _ _).alloc _;have c:Hid (Blk ((w.alloc (.cells #[.bool V,.slice O X J,.bool r,.slice s t K] 111)).alloc (.cells #[.bool W,.slice R Y E,.bool v,.slice G M y] 111)) (w.heap.size+1) 111 #[.bool W,.slice R Y E,.bool v,.slice G M y]):=Eb _ _ ZbV;have S:Hid (Ext w ((w.alloc (.cells #[.bool V,.slice O X J,.bool r,.slice s t K] 111)).alloc (.cells #[.bool W,.slice R Y E,.bool v,.slice G M y] 111))):=((Ext.refl _).alloc _).alloc _;replace h:=Ae (h.ext S.out);replace a:=Ae (a.ext S.out);go_enter Tryz.func117,Tryz.ntmps117;go_wp2_with fail;generalize ((w.alloc (.cells #[.bool V,.slice O X J,.bool r,.slice s t K] 111)).alloc (.cells #[.bool W,.slice R Y E,.bool v,.slice G M y] 111))=f at *;generalize w.heap.size=m at *;refine(Si _ _ _ _ _ _ _ _ p.num q.num _ h.out.1 a.out.1).mono ?_;rintro e A ⟨rfl,I⟩;have u:A.cell? ⟨m,2,none⟩=some (.bool r):=I.cellv (Q.out.cell 2);have x:A.cell? ⟨m,3,none⟩=some (.slice s t K):=I.cellv (Q.out.cell 3);have k:A.cell? ⟨m+1,2,none⟩=some (.bool v):=I.cellv (c.out.cell 2);have g:A.cell? ⟨m+1,3,none⟩=some (.slice G M y):=I.cellv (c.out.cell 3);replace I:=Ae I;by_cases C:p.num=q.num
 .have Z:decide (p.num=q.num)=true:=by simpa using C
  rw[Z];replace C:=Ae C;clear Z;go_wp2_with fail;refine(Si _ _ _ _ _ _ _ _ (p.den:Int) (q.den:Int) _ (h.out.2.ext I.out) (a.out.2.ext I.out)).mono ?_;rintro e F ⟨rfl,B⟩
  have b:decide ((p.den:Int)=q.den)=decide (p=q):=by
   by_cases d:p=q
   .subst d;simp
   .have:¬((p.den:Int)=q.den):=λe=>d (Rat.ext C.out ZbK)
    simp[this,d]
  obtain⟨l,L⟩:∃l,decide (p=q)=l:=⟨_,rfl⟩;rw[b,L];replace L:=Ae L;replace B:=Ae B;clear b;cases l
  .exact ZaH
  .exact ZaH
 .have Z:decide (p.num=q.num)=false:=by simpa using C
  rw[Z]
  have b:decide (p=q)=false:=by
   simp only[decide_eq_false_iff_not];exact λe=>C ZeC
  replace b:=Ae b;clear Z C;go_wp2;go_ret;exact⟨by rw[b.out];rfl,S.out.trans I.out⟩
noncomputable def tmB (s t:Tm):Bool:=JK s.m t.m&&decide (s.c=t.c)
theorem Ue{s t:Tm}:tmB s t=true↔Eqv s.m t.m/\s.c=t.c:=by
 unfold tmB;rw[Bool.and_eq_true,Gv,decide_eq_true_eq];exact Iff.rfl
theorem Rg(M r:Bool)(K E:Option Addr)(R J G u:Nat)(O v:Bool)(L F:Option Addr)(V C x y:Nat)(s t:Tm)(w:World)(h:IsRat w (.bool M) (.slice K R J) (.bool r) (.slice E G u) s.c)(a:IsRat w (.bool O) (.slice L V C) (.bool v) (.slice F x y) t.c) :
  Calls Tryz.prog 50 #[.agg #[.bool M,.slice K R J,.bool r,.slice E G u,.int .i64 (s.m 0),.int .i64 (s.m 1),.int .i64 (s.m 2),.int .i64 (s.m 3),.int .i64 (s.m 4),.int .i64 (s.m 5),.int .i64 (s.m 6),.int .i64 (s.m 7)],.agg #[.bool O,.slice L V C,.bool v,.slice F x y,.int .i64 (t.m 0),.int .i64 (t.m 1),.int .i64 (t.m 2),.int .i64 (t.m 3),.int .i64 (t.m 4),.int .i64 (t.m 5),.int .i64 (t.m 6),.int .i64 (t.m 7)]] w λe N=>e=.returned (.bool (tmB s t))/\Ext w N:=by
 have Q:Hid (Blk ((w.alloc (.cells #[.bool M,.slice K R J,.bool r,.slice E G u,.int .i64 (s.m 0),.int .i64 (s.m 1),.int .i64 (s.m 2),.int .i64 (s.m 3),.int .i64 (s.m 4),.int .i64 (s.m 5),.int .i64 (s.m 6),.int .i64 (s.m 7)] 114)).alloc (.cells #[.bool O,.slice L V C,.bool v,.slice F x y,.int .i64 (t.m 0),.int .i64 (t.m 1),.int .i64 (t.m 2),.int .i64 (t.m 3),.int .i64 (t.m 4),.int .i64 (t.m 5),.int .i64 (t.m 6),.int .i64 (t.m 7)] 114)) w.heap.size 114 #[.bool M,.slice K R J,.bool r,.slice E G u,.int .i64 (s.m 0),.int .i64 (s.m 1),.int .i64 (s.m 2),.int .i64 (s.m 3),.int .i64 (s.m 4),.int .i64 (s.m 5),.int .i64 (s.m 6),.int .i64 (s.m 7)]):=(Blk.new _ _ _).alloc _;have X:Hid (Blk ((w.alloc (.cells #[.bool M,.slice K R J,.bool r,.slice E G u,.int .i64 (s.m 0),.int .i64 (s.m 1),.int .i64 (s.m 2),.int .i64 (s.m 3),.int .i64 (s.m 4),.int .i64 (s.m 5),.int .i64 (s.m 6),.int .i64 (s.m 7)] 114)).alloc (.cells #[.bool O,.slice L V C,.bool v,.slice F x y,.int .i64 (t.m 0),.int .i64 (t.m 1),.int .i64 (t.m 2),.int .i64 (t.m 3),.int .i64 (t.m 4),.int .i64 (t.m 5),.int .i64 (t.m 6),.int .i64 (t.m 7)] 114)) (w.heap.size+1) 114 #[.bool O,.slice L V C,.bool v,.slice F x y,.int .i64 (t.m 0),.int .i64 (t.m 1),.int .i64 (t.m 2),.int .i64 (t.m 3),.int .i64 (t.m 4),.int .i64 (t.m 5),.int .i64 (t.m 6),.int .i64 (t.m 7)]):=Eb _ _ ZbV;have S:Hid (Ext w ((w.alloc (.cells #[.bool M,.slice K R J,.bool r,.slice E G u,.int .i64 (s.m 0),.int .i64 (s.m 1),.int .i64 (s.m 2),.int .i64 (s.m 3),.int .i64 (s.m 4),.int .i64 (s.m 5),.int .i64 (s.m 6),.int .i64 (s.m 7)] 114)).alloc (.cells #[.bool O,.slice L V C,.bool v,.slice F x y,.int .i64 (t.m 0),.int .i64 (t.m 1),.int .i64 (t.m 2),.int .i64 (t.m 3),.int .i64 (t.m 4),.int .i64 (t.m 5),.int .i64 (t.m 6),.int .i64 (t.m 7)] 114))):=((Ext.refl _).alloc _).alloc _;replace h:=Ae (h.ext S.out);replace a:=Ae (a.ext S.out);have heq:∀W,_:=λW=>HK s.m t.m W;by_cases A:JK s.m t.m=true
 .rw [A]at heq
  have b:tmB s t=decide (s.c=t.c):=by unfold tmB;rw[A,Bool.true_and]
  rw[b];clear b A;obtain⟨l,p⟩:∃l,decide (s.c=t.c)=l:=⟨_,rfl⟩;replace p:=Ae p;go_enter Tryz.func50,Tryz.ntmps50;go_wp2_with fail;generalize ((w.alloc (.cells #[.bool M,.slice K R J,.bool r,.slice E G u,.int .i64 (s.m 0),.int .i64 (s.m 1),.int .i64 (s.m 2),.int .i64 (s.m 3),.int .i64 (s.m 4),.int .i64 (s.m 5),.int .i64 (s.m 6),.int .i64 (s.m 7)] 114)).alloc (.cells #[.bool O,.slice L V C,.bool v,.slice F x y,.int .i64 (t.m 0),.int .i64 (t.m 1),.int .i64 (t.m 2),.int .i64 (t.m 3),.int .i64 (t.m 4),.int .i64 (t.m 5),.int .i64 (t.m 6),.int .i64 (t.m 7)] 114))=Y at *;refine(Xn M r K E R J G u O v L F V C x y s.c t.c _ h.out a.out).mono ?_;rintro e B ⟨rfl,I⟩;rw[p.out];replace I:=Ae I;clear heq;cases l
  .go_wp2
   exact ZhR
  .go_wp2
   exact ZhR
 .have P:JK s.m t.m=false:=by simpa using A
  rw[P]at heq;have b:tmB s t=false:=by unfold tmB;rw[P,Bool.false_and]
  rw[b];clear b A P;go_enter Tryz.func50,Tryz.ntmps50;go_wp2;go_ret;exact⟨rfl,S.out⟩
noncomputable def Fn (P Q:List Tm):Bool:=@decide (SameL P Q) (Classical.propDecidable _)
theorem KX:Fn vi ud=true↔SameL vi ud:=by
 unfold Fn;exact @decide_eq_true_iff _ (Classical.propDecidable _)
theorem Nu(h:¬SameL vi ud):Fn vi ud=false:=by
 rw[Bool.eq_false_iff];exact λa=>h (KX.1 a)
theorem Kg:∀{P Q:List Tm},SameL P Q↔P.length=Q.length/\∀k,k<P.length->tmB (BJ P k) (BJ Q k)=true
 |[],[]=>by simp[SameL]
 |[],t::Q=>by simp[SameL]
 |s::P,[]=>by simp[SameL]
 |s::P,t::Q=>by
  have q:=Kg (P:=P) (Q:=Q);constructor
  .rintro ⟨A,B,L⟩
   obtain⟨V,m⟩:=q.1 L;refine⟨by simp[V],λk C=>?_⟩
   match k with
   |0=>exact Ue.2 ⟨B,A⟩
   |k+1=>exact m k ZcF
  .rintro ⟨A,B⟩
   have g:=Ue.1 (B 0 ZbV);exact⟨g.2,g.1,q.2 ⟨by simpa using A,λk C=>B (k+1) ZcF⟩⟩
def Uc(c:Rat)(m:Nat->Int)(P:List Tm):List Tm:=P.map λt=>⟨c*t.c,Cy m t.m⟩
@[simp] theorem Wt(c:Rat)(m:Nat->Int)(P:List Tm):(Uc c m P).length=P.length:=List.length_map ..
theorem RP(f:e->Tm->e)(b:e)(h:n<vi.length):(vi.take (n+1)).foldl f b=f ((vi.take n).foldl f b) (BJ vi n):=by
 rw[<-OT h,List.foldl_append];rfl
def Sx(P:List Tm):Nat:=P.foldl (λs t=>s ||| suppTo t.m 8) 0
def Pe(a:Nat->Int)(k:Nat)(z:Int):Nat->Int:=λj=>if j=k then z else a j
theorem In8.zero:In8 (λ_=>0) 0 65535:=λi _=>⟨Int.le_refl _,by show(0:Int)<=65535;omega⟩
theorem Ke(a:Nat->Int):Cy (λ_=>0) a=a:=by funext i;simp[Cy]
theorem DY:vL.num.sign=0↔vL=0:=by rw[Int.sign_eq_zero_iff_zero];exact Rat.num_eq_zero
theorem Yy(h:vL≠0):vL.num≠0:=λe=>h (Rat.num_eq_zero.1 e)
end Go.Proofs.YtcikkglcoeedlaaGreat
