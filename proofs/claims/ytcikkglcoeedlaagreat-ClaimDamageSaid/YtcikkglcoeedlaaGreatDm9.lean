/- Part 9. No condition. -/
import Derived.Great.BuildSlice
import Derived.Test.YtcikkglcoeedlaaGreatDm4
import Derived.Test.YtcikkglcoeedlaaGreatDm8
set_option linter.all false
set_option maxRecDepth 100000
set_option maxHeartbeats 1600000
namespace Go.Proofs.YtcikkglcoeedlaaGreat
open _root_.Go.Proofs.Tryz
open Go.RowKit
variable{vc uj:List Tm}{n b:Nat}{vD:Rat}{e:Type}
def tmc(b H:Bool)(A O:Option Addr)(n c h l:Nat)(a:Nat->Int):Array Value:=#[.bool b,.slice A n c,.bool H,.slice O h l,.int .i64 (a 0),.int .i64 (a 1),.int .i64 (a 2),.int .i64 (a 3),.int .i64 (a 4),.int .i64 (a 5),.int .i64 (a 6),.int .i64 (a 7)]
def TmV(w:World)(f:Array Value)(t:Tm):Prop:=∃(b H:Bool) (A O:Option Addr) (n c h l:Nat),f=tmc b H A O n c h l t.m/\IsRat w (.bool b) (.slice A n c) (.bool H) (.slice O h l) t.c
def BA(P:List Tm)(k:Nat):Tm:=P.getD k default
theorem DC(h:n<vc.length):BA vc n∈vc:=by
 unfold BA;exact Zgh
theorem Hf(h:n<vc.length):vc.drop n=BA vc n::vc.drop (n+1):=by
 unfold BA;rw[Yaa,Yab h,Ycs h];rfl
theorem RH(h:n<vc.length):vc.take n++[BA vc n]=vc.take (n+1):=by
 rw[Ycp h];exact Zke
def AcA(w:World)(v:Value)(P:List Tm):Prop:=
 ∃(A:Option Addr) (c:Nat),v=.slice A P.length c/\P.length<=c/\c<=9223372036854775807 /\
  (0<P.length->∃(b o:Nat) (f:Array Value) (K:Nat×Nat),A=some ⟨b,o,none⟩/\w.heap[b]? = some (.cells f 114 K)/\∀k,k<P.length->∃q,TmV w q (BA P k)/\∀j,j<12->f[o+k*12+j]? = q[j]?)
def PSz(P:List Tm)(N:Nat):Prop:=∀t∈P,RSz t.c N
theorem PSz.mono(h:PSz vc n)(v:n<=b):PSz vc b:=λt L=>(h t L).mono v
def PIn(P:List Tm)(L J:Int):Prop:=∀t∈P,In8 t.m L J
theorem PIn.mono{a b c d:Int}(h:PIn vc a b)(q:c<=a)(A:b<=d):PIn vc c d:=λt L=>(h t L).mono q A
theorem A6t(h:Aw n=Aw b):n=b:=by rw[<-AK n,<-AK b,h]
theorem Vl(b H:Bool)(A V:Option Addr)(n c K l:Nat)(x y:Int)(w:World)(h:IsInt w (.bool b) (.slice A n c) x)(L:IsInt w (.bool H) (.slice V K l) y) :
  Calls prog 218 #[.agg #[.bool b,.slice A n c],.agg #[.bool H,.slice V K l]] w λe N=>e=.returned (.bool (decide (x=y)))/\Ext w N:=by
 have t:Hid (Blk ((w.alloc (.cells #[.bool b,.slice A n c] 109)).alloc (.cells #[.bool H,.slice V K l] 109)) w.heap.size 109 #[.bool b,.slice A n c]):=(Blk.new _ _ _).alloc _;have xc:Hid (Blk ((w.alloc (.cells #[.bool b,.slice A n c] 109)).alloc (.cells #[.bool H,.slice V K l] 109)) (w.heap.size+1) 109 #[.bool H,.slice V K l]):=EV _ _ ZbR;have Z:Hid (Ext w ((w.alloc (.cells #[.bool b,.slice A n c] 109)).alloc (.cells #[.bool H,.slice V K l] 109))):=((Ext.refl _).alloc _).alloc _;obtain⟨B,d,U,z,T,F⟩:=h.2.open_;obtain⟨B',a,xb,s,xh,M⟩:=L.2.open_;injection U with W o Q
 subst W;subst Q;injection xb with p r u
 subst p;subst u;have G:b=decide (x<0):=by have:=h.1;injection this
 have f:H=decide (y<0):=by have:=L.1;injection this
 replace F:=Af F;replace M:=Af M;replace o:=Af o;replace r:=Af r;have xd:n<=9223372036854775807:=by have:=o.out;omega
 clear h L z s;by_cases xa:b=H
 .by_cases xj:n=K
  .subst xa;subst xj
   have xe:Hid (x.natAbs=y.natAbs->x=y):=Af λh=>by
    rw[G]at f;by_cases q:x<0<;>by_cases C:y<0<;>simp[q,C]at f<;>omega
   clear G f;go_enter func218,ntmps218;go_wp2;generalize ((w.alloc (.cells #[.bool b,.slice A n c] 109)).alloc (.cells #[.bool b,.slice V n l] 109))=wa at *;generalize w.heap.size=B2 at *;go_loopw [5] (λi wr=>∃k:Nat,k<=n/\i=.int .i64 k/\Hid (Ext wa wr/\∀i,i<k->(Aw x.natAbs).getD i 0=(Aw y.natAbs).getD i 0)) (λi _=>n-(intOf i).toNat)
   case atStart=>exact⟨0,by omega,rfl,Ext.refl _,λi J=>absurd J (Ybj _)⟩
   case round=>
    obtain⟨k,E,rfl,m⟩:=hrel;have g:wr.cell? ⟨B2,1,none⟩=some (.slice A n c):=m.out.1.cellv (t.out.cell 1);have j:wr.cell? ⟨B2+1,1,none⟩=some (.slice V n l):=m.out.1.cellv (xc.out.cell 1);by_cases O:k<n
    .have I:decide (k<n)=true:=by simpa using O
     obtain⟨gx,ox,rfl,xm,xk⟩:=F.out (by rw[<-o.out];omega);obtain⟨gy,P,rfl,xn,xg⟩:=M.out (by rw[<-r.out];omega);replace xk:wr.cell? ⟨gx,ox+k,none⟩=some (.int .u32 ((Aw x.natAbs).getD k 0:Nat)):=(Z.out.trans m.out.1).cellv (xk k (by rw[<-o.out];omega));replace xg:wr.cell? ⟨gy,P+k,none⟩=some (.int .u32 ((Aw y.natAbs).getD k 0:Nat)):=(Z.out.trans m.out.1).cellv (xg k (by rw[<-r.out];omega));generalize v:(Aw x.natAbs).getD k 0=X at *;generalize R:(Aw y.natAbs).getD k 0=Y at *;replace v:=Af v;replace R:=Af R;by_cases xi:X=Y
     .subst xi
      have xp:IntKind.i64.wrap ((k:Int)+1)=(k:Int)+1:=IntWalk.i64_in _ ZbC;go_wp2;go_quiet (fail);go_wp2;refine⟨⟨k+1,O,by simp,m.out.1.drewN _,λi J=>?_⟩,by simp[intOf];omega⟩;by_cases e:i=k
      .rw [e,v.out,R.out]
      .exact m.out.2 i ZbC
     .have S:¬x=y:=λe=>xi (by rw [<-v.out, <-R.out, e])
      have xl:¬((X:Int)=Y):=by omega
      replace xi:=Af xi;go_wp2;go_quiet (fail);go_wp2;go_ret;exact⟨by simp[S],Z.out.trans (m.out.1.drewN _)⟩
    .obtain rfl:k=n:=by omega
     have I:decide (k<k)=false:=by simp
     have xf : x = y := xe.out (A6t (List.ext_getElem (by rw [← o.out, ← r.out]) fun i q C => by
      have:=m.out.2 i (by rw[o.out];exact q);simpa[Yaa,Yab q,Yab C]using this))
     replace xf:=Af xf;go_wp2;go_ret;exact⟨by simp[xf.out],Z.out.trans m.out.1⟩
  .subst xa
   have S:¬x=y:=λe=>xj (by rw[o.out,r.out,e]);have xo:¬((n:Int)=K):=by omega
   replace xj:=Af xj;replace S:=Af S;clear G f;go_enter func218,ntmps218;go_wp2;go_ret;exact⟨by simp[S.out],Z.out⟩
 .have S:¬x=y:=λe=>xa (by rw [G, f, e])
  replace S:=Af S;clear G f;cases b<;>cases H
  .exact absurd rfl xa
  .exact ZaF
  .exact ZaF
  .exact absurd rfl xa
theorem A1j(j L:Bool)(O S:Option Addr)(l F V W:Nat)(m X:Bool)(c J:Option Addr)(o n M a:Nat)(p q:Rat)(w:World)(h:IsRat w (.bool j) (.slice O l F) (.bool L) (.slice S V W) p)(b:IsRat w (.bool m) (.slice c o n) (.bool X) (.slice J M a) q) :
  Calls prog 117 #[.agg #[.bool j,.slice O l F,.bool L,.slice S V W],.agg #[.bool m,.slice c o n,.bool X,.slice J M a]] w λe N=>e=.returned (.bool (decide (p=q)))/\Ext w N:=by
 have r:Hid (Blk ((w.alloc (.cells #[.bool j,.slice O l F,.bool L,.slice S V W] 111)).alloc (.cells #[.bool m,.slice c o n,.bool X,.slice J M a] 111)) w.heap.size 111 #[.bool j,.slice O l F,.bool L,.slice S V W]):=(Blk.new _ _ _).alloc _;have g:Hid (Blk ((w.alloc (.cells #[.bool j,.slice O l F,.bool L,.slice S V W] 111)).alloc (.cells #[.bool m,.slice c o n,.bool X,.slice J M a] 111)) (w.heap.size+1) 111 #[.bool m,.slice c o n,.bool X,.slice J M a]):=EV _ _ ZbR;have Z:Hid (Ext w ((w.alloc (.cells #[.bool j,.slice O l F,.bool L,.slice S V W] 111)).alloc (.cells #[.bool m,.slice c o n,.bool X,.slice J M a] 111))):=((Ext.refl _).alloc _).alloc _;replace h:=Af (h.ext Z.out);replace b:=Af (b.ext Z.out);go_enter func117,ntmps117;go_wp2_with fail;generalize ((w.alloc (.cells #[.bool j,.slice O l F,.bool L,.slice S V W] 111)).alloc (.cells #[.bool m,.slice c o n,.bool X,.slice J M a] 111))=s at *;generalize w.heap.size=I at *;refine(Vl _ _ _ _ _ _ _ _ p.num q.num _ h.out.1 b.out.1).mono ?_;rintro e k ⟨rfl,Q⟩;have E:k.cell? ⟨I,2,none⟩=some (.bool L):=Q.cellv (r.out.cell 2);have B:k.cell? ⟨I,3,none⟩=some (.slice S V W):=Q.cellv (r.out.cell 3);have v:k.cell? ⟨I+1,2,none⟩=some (.bool X):=Q.cellv (g.out.cell 2);have K:k.cell? ⟨I+1,3,none⟩=some (.slice J M a):=Q.cellv (g.out.cell 3);replace Q:=Af Q;by_cases C:p.num=q.num
 .have d:decide (p.num=q.num)=true:=by simpa using C
  rw[d];replace C:=Af C;clear d;go_wp2_with fail;refine(Vl _ _ _ _ _ _ _ _ (p.den:Int) (q.den:Int) _ (h.out.2.ext Q.out) (b.out.2.ext Q.out)).mono ?_;rintro e A ⟨rfl,T⟩
  have Y:decide ((p.den:Int)=q.den)=decide (p=q):=by
   by_cases i:p=q
   .subst i;simp
   .have:¬((p.den:Int)=q.den):=λe=>i (Rat.ext C.out ZbC)
    simp[this,i]
  obtain⟨f,G⟩:∃f,decide (p=q)=f:=⟨_,rfl⟩;rw[Y,G];replace G:=Af G;replace T:=Af T;clear Y;cases f
  .exact ZaG
  .exact ZaG
 .have d:decide (p.num=q.num)=false:=by simpa using C
  rw[d]
  have Y:decide (p=q)=false:=by
   simp only[YdD];exact λe=>C Zez
  replace Y:=Af Y;clear d C;go_wp2;go_ret;exact⟨by rw[Y.out];rfl,Z.out.trans Q.out⟩
noncomputable def tmB (s t:Tm):Bool:=OS s.m t.m&&decide (s.c=t.c)
theorem XN{s t:Tm}:tmB s t=true↔Eqv s.m t.m/\s.c=t.c:=by
 unfold tmB;rw[Yam,IX,YaZ];exact Ydt
theorem Ug(j C:Bool)(G S:Option Addr)(l q V E:Nat)(m X:Bool)(I B:Option Addr)(o n F a:Nat)(s t:Tm)(w:World)(h:IsRat w (.bool j) (.slice G l q) (.bool C) (.slice S V E) s.c)(b:IsRat w (.bool m) (.slice I o n) (.bool X) (.slice B F a) t.c) :
  Calls prog 50 #[.agg #[.bool j,.slice G l q,.bool C,.slice S V E,.int .i64 (s.m 0),.int .i64 (s.m 1),.int .i64 (s.m 2),.int .i64 (s.m 3),.int .i64 (s.m 4),.int .i64 (s.m 5),.int .i64 (s.m 6),.int .i64 (s.m 7)],.agg #[.bool m,.slice I o n,.bool X,.slice B F a,.int .i64 (t.m 0),.int .i64 (t.m 1),.int .i64 (t.m 2),.int .i64 (t.m 3),.int .i64 (t.m 4),.int .i64 (t.m 5),.int .i64 (t.m 6),.int .i64 (t.m 7)]] w λe N=>e=.returned (.bool (tmB s t))/\Ext w N:=by
 have r:Hid (Blk ((w.alloc (.cells #[.bool j,.slice G l q,.bool C,.slice S V E,.int .i64 (s.m 0),.int .i64 (s.m 1),.int .i64 (s.m 2),.int .i64 (s.m 3),.int .i64 (s.m 4),.int .i64 (s.m 5),.int .i64 (s.m 6),.int .i64 (s.m 7)] 114)).alloc (.cells #[.bool m,.slice I o n,.bool X,.slice B F a,.int .i64 (t.m 0),.int .i64 (t.m 1),.int .i64 (t.m 2),.int .i64 (t.m 3),.int .i64 (t.m 4),.int .i64 (t.m 5),.int .i64 (t.m 6),.int .i64 (t.m 7)] 114)) w.heap.size 114 #[.bool j,.slice G l q,.bool C,.slice S V E,.int .i64 (s.m 0),.int .i64 (s.m 1),.int .i64 (s.m 2),.int .i64 (s.m 3),.int .i64 (s.m 4),.int .i64 (s.m 5),.int .i64 (s.m 6),.int .i64 (s.m 7)]):=(Blk.new _ _ _).alloc _;have J:Hid (Blk ((w.alloc (.cells #[.bool j,.slice G l q,.bool C,.slice S V E,.int .i64 (s.m 0),.int .i64 (s.m 1),.int .i64 (s.m 2),.int .i64 (s.m 3),.int .i64 (s.m 4),.int .i64 (s.m 5),.int .i64 (s.m 6),.int .i64 (s.m 7)] 114)).alloc (.cells #[.bool m,.slice I o n,.bool X,.slice B F a,.int .i64 (t.m 0),.int .i64 (t.m 1),.int .i64 (t.m 2),.int .i64 (t.m 3),.int .i64 (t.m 4),.int .i64 (t.m 5),.int .i64 (t.m 6),.int .i64 (t.m 7)] 114)) (w.heap.size+1) 114 #[.bool m,.slice I o n,.bool X,.slice B F a,.int .i64 (t.m 0),.int .i64 (t.m 1),.int .i64 (t.m 2),.int .i64 (t.m 3),.int .i64 (t.m 4),.int .i64 (t.m 5),.int .i64 (t.m 6),.int .i64 (t.m 7)]):=EV _ _ ZbR;have Z:Hid (Ext w ((w.alloc (.cells #[.bool j,.slice G l q,.bool C,.slice S V E,.int .i64 (s.m 0),.int .i64 (s.m 1),.int .i64 (s.m 2),.int .i64 (s.m 3),.int .i64 (s.m 4),.int .i64 (s.m 5),.int .i64 (s.m 6),.int .i64 (s.m 7)] 114)).alloc (.cells #[.bool m,.slice I o n,.bool X,.slice B F a,.int .i64 (t.m 0),.int .i64 (t.m 1),.int .i64 (t.m 2),.int .i64 (t.m 3),.int .i64 (t.m 4),.int .i64 (t.m 5),.int .i64 (t.m 6),.int .i64 (t.m 7)] 114))):=((Ext.refl _).alloc _).alloc _;replace h:=Af (h.ext Z.out);replace b:=Af (b.ext Z.out);have heq:∀W,_:=λW=>Jm s.m t.m W;by_cases v:OS s.m t.m=true
 .rw [v]at heq
  have Y:tmB s t=decide (s.c=t.c):=by unfold tmB;rw[v,Bool.true_and]
  rw[Y];clear Y v;obtain⟨f,A⟩:∃f,decide (s.c=t.c)=f:=⟨_,rfl⟩;replace A:=Af A;go_enter func50,ntmps50;go_wp2_with fail;generalize ((w.alloc (.cells #[.bool j,.slice G l q,.bool C,.slice S V E,.int .i64 (s.m 0),.int .i64 (s.m 1),.int .i64 (s.m 2),.int .i64 (s.m 3),.int .i64 (s.m 4),.int .i64 (s.m 5),.int .i64 (s.m 6),.int .i64 (s.m 7)] 114)).alloc (.cells #[.bool m,.slice I o n,.bool X,.slice B F a,.int .i64 (t.m 0),.int .i64 (t.m 1),.int .i64 (t.m 2),.int .i64 (t.m 3),.int .i64 (t.m 4),.int .i64 (t.m 5),.int .i64 (t.m 6),.int .i64 (t.m 7)] 114))=L at *;refine(A1j j C G S l q V E m X I B o n F a s.c t.c _ h.out b.out).mono ?_;rintro e k ⟨rfl,Q⟩;rw[A.out];replace Q:=Af Q;clear heq;cases f
  .go_wp2
   exact Zjl
  .go_wp2
   exact Zjl
 .have K:OS s.m t.m=false:=by simpa using v
  rw[K]at heq;have Y:tmB s t=false:=by unfold tmB;rw[K,Bool.false_and]
  rw[Y];clear Y v K;go_enter func50,ntmps50;go_wp2;go_ret;exact⟨rfl,Z.out⟩
noncomputable def JT (P Q:List Tm):Bool:=@decide (SameL P Q) (Classical.propDecidable _)
theorem Nj:JT vc uj=true↔SameL vc uj:=by
 unfold JT;exact @decide_eq_true_iff _ (Classical.propDecidable _)
theorem Qh(h:¬SameL vc uj):JT vc uj=false:=by
 rw[Ydi];exact λb=>h (Nj.1 b)
theorem Ml:∀{P Q:List Tm},SameL P Q↔P.length=Q.length/\∀k,k<P.length->tmB (BA P k) (BA Q k)=true
 |[],[]=>by simp[SameL]
 |[],t::Q=>by simp[SameL]
 |s::P,[]=>by simp[SameL]
 |s::P,t::Q=>by
  have u:=Ml (P:=P) (Q:=Q);constructor
  .rintro ⟨q,A,K⟩
   obtain⟨C,E⟩:=u.1 K;refine⟨by simp[C],λk B=>?_⟩
   match k with
   |0=>exact XN.2 ⟨A,q⟩
   |k+1=>exact E k ZcZ
  .rintro ⟨q,A⟩
   have c:=XN.1 (A 0 ZbR);exact⟨c.2,c.1,u.2 ⟨by simpa using q,λk B=>A (k+1) ZcZ⟩⟩
def Ur(c:Rat)(m:Nat->Int)(P:List Tm):List Tm:=P.map λt=>⟨c*t.c,CY m t.m⟩
@[simp] theorem A0k(c:Rat)(m:Nat->Int)(P:List Tm):(Ur c m P).length=P.length:=Yap ..
theorem UV(f:e->Tm->e)(b:e)(h:n<vc.length):(vc.take (n+1)).foldl f b=f ((vc.take n).foldl f b) (BA vc n):=by
 rw[<-RH h,YeD];rfl
def OY(P:List Tm):Nat:=P.foldl (λs t=>s ||| suppTo t.m 8) 0
def RW(a:Nat->Int)(k:Nat)(z:Int):Nat->Int:=λj=>if j=k then z else a j
theorem In8.zero:In8 (λ_=>0) 0 65535:=λi _=>⟨YbP _,by show(0:Int)<=65535;omega⟩
theorem Hu(a:Nat->Int):CY (λ_=>0) a=a:=by funext i;simp[CY]
theorem DL:vD.num.sign=0↔vD=0:=by rw[Ydq];exact YeJ
theorem A2m(h:vD≠0):vD.num≠0:=λe=>h (YeJ.1 e)
