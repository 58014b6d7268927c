/- Part 17. No condition. -/
import Derived.Test.YtcikkglcoeedlaaGreatBk2
import Derived.Test.YtcikkglcoeedlaaGreatBk3
import Derived.Test.YtcikkglcoeedlaaGreatBk9
import Derived.Test.YtcikkglcoeedlaaGreatBk14
import Derived.Test.YtcikkglcoeedlaaGreatBk15
import Derived.Test.YtcikkglcoeedlaaGreatBk16
set_option linter.unusedSimpArgs false
set_option linter.unusedVariables false
set_option maxRecDepth 100000
namespace Go.Proofs.YtcikkglcoeedlaaGreat
open _root_.Go.Proofs.Tryz
variable{ve:AS}{g:AV}{xc:AV->Prop}{xd:Array (Nat×Operand)}{vU:Array Field}{vY:Array Oper}{uI:Array Operand}{vt:Array TypeId}{vW:BinOp}{p un:Bool}{r vw uq xa:D}{vk:Exit->AS->Prop}{vZ:Field}{vP:Func}{vd:FuncId}{s:GS}{a j:Int}{o:IntKind}{vm ul:List (List D)}{vx:List (Nat->Int)}{vc:List (Nat×AV)}{uu:List (Nat×List D)}{vv:List (Nat×Nat)}{ub:List (Nat×Operand)}{i:List AV}{v vn xb:List D}{ur:List HR}{l:List Nat}{vf:List Oper}{vO:List Operand}{H vz:List Ow}{vb uh:List Tm}{ue:List Value}{e:Type}{vu:List e}{n b T m c k h vj:Nat}{vh vD:Nat->Int}{ui:Op}{va:Oper}{x y vS:Operand}{vC:Operand->AV}{P:Program}{vA:Rat}{vL:Tm}{d:TypeDesc}{t U:TypeId}{z u:Value}{w:World}{vH:e->List D}
section
open Go.RowKit
theorem Ag (t : P.funcs[vd]? = some vP) (f : (vP.name == "runtime.NumGoroutine") = false) (F : vP.body.isNone = false) (args : Array Value) (w : World) : (callFunc vd args).run P w = .ok (.enter vd args) w := by
 have:(program).run P w = .ok P w:=rfl;have j : ¬ vP.name = "runtime.NumGoroutine" := by simpa using f
 have T:¬vP.body=none:=λe=>by rw[e]at F;cases F
 simp[callFunc,this,t,j,T]
theorem BI(I:∀args w,(callFunc vd args).run P w=.ok (.enter vd args) w)(h:∀(s:GS) (K:List Value),s.Ok->K.length=v.length->(∀k,k<v.length->(DK v k).rel s (K.getD k undef)) ->
  Calls P vd K.toArray s.w λe N=>∃C,e=.returned C/\Ext s.w N/\∀j:GS,j.w=N->j.Ok->(∀b k,s.w.heap.size<=b->b<N.heap.size->j.S b k)->GS.Le s j->r.rel j C):Abs P vd v r:=by
 refine⟨I,λs K G J F=>(h s K G J F).mono λe N ⟨C,E,V,X⟩=>⟨C,E,s.grown N,rfl,FI V,?_⟩⟩;exact X _ rfl ((FI V).ok G) (λb k A B=>.inr ⟨A,B⟩) (FI V)
theorem vs1(h:ue.length=1):ue=[ue.getD 0 undef]:=by
 match ue,h with
 |[a],_=>rfl
theorem vs2(h:ue.length=2):ue=[ue.getD 0 undef,ue.getD 1 undef]:=by
 match ue,h with
 |[a,b],_=>rfl
def wD(l:List Nat):D:=⟨λs v=>(slD 335 1 (l.map λx=>[ex (.int .u32 (x:Nat))])).rel s v/\BM l,λh I=>⟨(slD _ _ _).st h.1 I,h.2⟩⟩
theorem Er(h:(wD l).rel s z):Words s.w z l:=by
 obtain⟨⟨A,c,B,C,L,S⟩,Y⟩:=h;simp only[Yar]at B C S;refine⟨A,c,B,C,L,Y,λE=>?_⟩;obtain⟨b,o,n,G⟩:=S E;obtain⟨_,F,I,g,y⟩:=G 0 E;refine⟨b,o,F,I,n,g,λi K=>?_⟩;obtain⟨Q,M,R,W,J⟩:=G i K;rw[g]at W;cases W;obtain⟨_,u,N,_,q⟩:=J 0 (by rw[Q];omega);have e:DK ((l.map λx=>[ex (.int .u32 (x:Nat))]).getD i []) 0=ex (.int .u32 (l[i]:Nat)):=by simp[DK,K]
 rw[e]at q;have q:u=_:=q;rw[YbB,Ybd]at N;rw[N,q]
theorem Jz(J:s.Ok)(h:Words s.w z l):(wD l).rel s z:=by
 obtain⟨A,c,B,C,L,Y,S⟩:=h;refine⟨⟨A,c,by rw[Yar];exact B,by rw[Yar];exact C,L,λF=>?_⟩,Y⟩;rw[Yar]at F;obtain⟨b,o,G,K,n,I,g⟩:=S F;refine⟨b,o,n,λk E=>?_⟩;rw[Yar]at E;have e:(l.map λx=>[ex (.int .u32 (x:Nat))]).getD k []=[ex (.int .u32 (l[k]:Nat))]:=by simp[E]
 rw[e];refine⟨rfl,G,K,I,λj a=>?_⟩;obtain rfl:j=0:=by simp at a;omega
 rw[YbB,Ybd];exact⟨J.safe b _ ⟨G,K,I⟩,_,g k E,rfl,rfl⟩
def Cr(z:Int):List D:=[ex (.bool (decide (z<0))),wD (As z.natAbs)]
def DA(q:Rat):List D:=[ex (.bool (decide (q.num<0))),wD (As q.num.natAbs),ex (.bool (decide ((q.den:Int)<0))),wD (As (q.den:Int).natAbs)]
theorem Nb(h:(wD l).rel s z):∃A n c,z=.slice A n c:=by
 obtain⟨A,c,B,_⟩:=h.1;exact⟨A,_,c,B⟩
theorem ag2(h:(AP [r,vw]).rel s z):∃E Y,z=.agg #[E,Y]/\r.rel s E/\vw.rel s Y:=by
 obtain⟨C,rfl,A,B⟩:=h;obtain⟨E,m,_,n⟩:=B 0 ZbS;obtain⟨Y,Z,_,l⟩:=B 1 ZbS;refine⟨E,Y,?_,n,l⟩;congr 1;refine Array.ext Zdn λi b G=>?_;simp at G
 match i,G with
 |0,_=>exact ZjM
 |1,_=>exact ZjN
theorem ag4(h:(AP [r,vw,uq,xa]).rel s z):∃F Y R I,z=.agg #[F,Y,R,I]/\r.rel s F/\vw.rel s Y/\uq.rel s R/\xa.rel s I:=by
 obtain⟨C,rfl,A,B⟩:=h;obtain⟨F,m,_,n⟩:=B 0 ZbS;obtain⟨Y,Z,_,l⟩:=B 1 ZbS;obtain⟨R,E,_,X⟩:=B 2 ZbS;obtain⟨I,H,_,K⟩:=B 3 ZbS;refine⟨F,Y,R,I,?_,n,l,X,K⟩;congr 1;refine Array.ext Zdn λi b G=>?_;simp at G
 match i,G with
 |0,_=>exact ZjM
 |1,_=>exact ZjN
 |2,_=>exact Yag ((YaN b).symm.trans E)
 |3,_=>exact Yag ((YaN b).symm.trans H)
theorem YN{l:List Value}(h:(AP (l.map ex)).rel s z):z=.agg l.toArray:=by
 obtain⟨C,rfl,A,B⟩:=h;congr 1;refine Array.ext Zdn λi b G=>?_;simp at G;obtain⟨u,e,_,r⟩:=B i Zet;have E:DK (l.map ex) i=ex l[i]:=by simp[DK,G]
 rw[E]at r;have r:u=l[i]:=r;rw[YaN b]at e;rw[Yag e,r];simp
theorem Abt{l:List Value}(h:HP l=true):(AP (l.map ex)).rel s (.agg l.toArray):=by
 refine⟨_,rfl,by simp,λk C=>?_⟩;simp at C;refine⟨l[k],by simp[C],Yaj.1 h _ ZbS,?_⟩;have A:DK (l.map ex) k=ex l[k]:=by simp[DK,C]
 rw[A];rfl
theorem A2I(h:(AP (DA vA)).rel s z):∃(b y:Bool) (A K:Option Addr) (n c g l:Nat),z=.agg #[.bool b,.slice A n c,.bool y,.slice K g l]/\IsRat s.w (.bool b) (.slice A n c) (.bool y) (.slice K g l) vA:=by
 obtain⟨F,Y,R,G,rfl,E,B,C,L⟩:=ag4 h;obtain rfl:F=_:=E;obtain rfl:R=_:=C;obtain⟨A,n,c,rfl⟩:=Nb B;obtain⟨K,g,l,rfl⟩:=Nb L;exact⟨_,_,A,K,n,c,g,l,rfl,⟨rfl,Er B⟩,⟨rfl,Er L⟩⟩
theorem A79{A K:Option Addr}(F:s.Ok)(h:IsRat s.w (.bool p) (.slice A n b) (.bool un) (.slice K T m) vA):(AP (DA vA)).rel s (.agg #[.bool p,.slice A n b,.bool un,.slice K T m]):=by
 obtain⟨⟨B,C⟩,L,S⟩:=h;refine⟨_,rfl,rfl,λk E=>?_⟩;have E:k<4:=E
 match k,E with
 |0,_=>exact⟨_,rfl,rfl,B⟩
 |1,_=>exact⟨_,rfl,rfl,Jz F C⟩
 |2,_=>exact⟨_,rfl,rfl,L⟩
 |3,_=>exact⟨_,rfl,rfl,Jz F S⟩
theorem DS(h:(AP (Cr a)).rel s z):∃(b:Bool) (A:Option Addr) (n c:Nat),z=.agg #[.bool b,.slice A n c]/\IsInt s.w (.bool b) (.slice A n c) a:=by
 obtain⟨E,Y,rfl,C,B⟩:=ag2 h;obtain rfl:E=_:=C;obtain⟨A,n,c,rfl⟩:=Nb B;exact⟨_,A,n,c,rfl,rfl,Er B⟩
theorem Hy{A:Option Addr}(F:s.Ok)(h:IsInt s.w (.bool p) (.slice A n b) a):(AP (Cr a)).rel s (.agg #[.bool p,.slice A n b]):=by
 obtain⟨B,C⟩:=h;refine⟨_,rfl,rfl,λk E=>?_⟩;have E:k<2:=E
 match k,E with
 |0,_=>exact⟨_,rfl,rfl,B⟩
 |1,_=>exact⟨_,rfl,rfl,Jz F C⟩
def CM(a:Nat->Int):List D:=[ex (.int .i64 (a 0)),ex (.int .i64 (a 1)),ex (.int .i64 (a 2)),ex (.int .i64 (a 3)),ex (.int .i64 (a 4)),ex (.int .i64 (a 5)),ex (.int .i64 (a 6)),ex (.int .i64 (a 7))]
theorem Dp(h:(AP (CM vh)).rel s z):z=.agg (c8 vh):=YN (l:=(c8 vh).toList) h
theorem A7o(a:Nat->Int):(AP (CM a)).rel s (.agg (c8 a)):=Abt (l:=(c8 a).toList) rfl
theorem Nv(h:n<8):DK (CM vh) n=ex (.int .i64 (vh n)):=by
 match n,h with
 |0,_=>rfl
 |1,_=>rfl
 |2,_=>rfl
 |3,_=>rfl
 |4,_=>rfl
 |5,_=>rfl
 |6,_=>rfl
 |7,_=>rfl
def Qk(t:Tm):List D:=DA t.c++CM t.m
theorem XJ(a:Nat->Int):(CM a).length=8:=rfl
theorem MA(t:Tm):(Qk t).length=12:=rfl
theorem A4r(t:Tm):(Qk t).drop 4=CM t.m:=rfl
theorem Uo{B:Array Value}(t:B.size=12)(h:∀k,k<12->∃u,B[k]? = some u/\u.oneCell'=true/\(DK (Qk vL) k).rel s u):TmV s.w B vL:=by
 obtain⟨I,m,_,M⟩:=h 0 ZbD;obtain⟨Y,Z,_,F⟩:=h 1 ZbD;obtain⟨R,C,_,X⟩:=h 2 ZbD;obtain⟨J,H,_,L⟩:=h 3 ZbD;obtain rfl:I=_:=M;obtain rfl:R=_:=X;obtain⟨A,n,c,rfl⟩:=Nb F;obtain⟨E,g,l,rfl⟩:=Nb L
 have x:∀i,i<8->B[4+i]? = some (.int .i64 (vL.m i)):=λi K=>by
  obtain⟨u,e,_,r⟩:=h (4+i) ZbD;have C:DK (Qk vL) (4+i)=ex (.int .i64 (vL.m i)):=by rw[<-Nv K,<-A4r,II]
  rw[C]at r;rw[e];exact congrArg some r
 refine⟨_,_,A,E,n,c,g,l,?_,⟨rfl,Er F⟩,rfl,Er L⟩;refine Array.ext (by rw[t];rfl) λi b G=>?_;rw[t]at b;refine Yag ?_;rw[<-YaN,<-YaN]
 match i,b with
 |0,_=>exact m
 |1,_=>exact Z
 |2,_=>exact C
 |3,_=>exact H
 |4,_=>exact x 0 ZbD
 |5,_=>exact x 1 ZbD
 |6,_=>exact x 2 ZbD
 |7,_=>exact x 3 ZbD
 |8,_=>exact x 4 ZbD
 |9,_=>exact x 5 ZbD
 |10,_=>exact x 6 ZbD
 |11,_=>exact x 7 ZbD
def BS(P:List Tm):D:=slD 114 12 (P.map Qk)
theorem A4X(h:n<vb.length):(vb.map Qk).getD n []=Qk (BA vb n):=ZjL
theorem A2L(h:(BS vb).rel s z):AbF s.w z vb:=by
 obtain⟨A,c,B,C,L,S⟩:=h;simp only[Yar]at B C S;refine⟨A,c,B,C,L,λF=>?_⟩;obtain⟨b,o,n,I⟩:=S F;obtain⟨_,G,J,g,y⟩:=I 0 F;refine⟨b,o,G,J,n,g,λk E=>?_⟩;obtain⟨Q,M,R,W,K⟩:=I k E;rw[g]at W;cases W;rw[A4X E]at K;refine⟨G.extract (o+k*12) (o+k*12+12),Uo (s:=s) ?_ λj a=>?_,λj a=>?_⟩
 .obtain ⟨_, u, e, _⟩:=K 11 (by simp [MA])
  have:=(Ybx.1 e).1;exact Zip
 .obtain ⟨_,u,e,l,X⟩:=K j a
  exact⟨u,by rw[YdC,Yan (by have:=(Ybx.1 e).1;obtain⟨_,x,N,_⟩:=K 11 (by simp[MA]);have:=(Ybx.1 N).1;omega)];exact e,l,X⟩
 .obtain ⟨_, x, N, _⟩:=K 11 (by simp [MA])
  have:=(Ybx.1 N).1;rw[YdC,Yan ZbD]
theorem AbY(E:r.rel s z)(O:vw.rel s u):(FY [r,vw]).rel s (.tuple #[z,u]):=⟨_,rfl,rfl,λk C=>by
 match k,C with
 |0,_=>exact⟨_,rfl,E⟩
 |1,_=>exact⟨_,rfl,O⟩
 |k+2,C=>exact absurd C ZbS⟩
def Ep(R:List (Nat->Int)):D:=slD 36 8 (R.map CM)
theorem Xk(h:n<vx.length):(vx.map CM).getD n []=CM (FX vx n):=by simp[FX,Yab,Yac h]
theorem ZY(h:(slD t 8 (vx.map CM)).rel s z):RowsAt .i64 t s.w z vx:=by
 obtain⟨A,c,B,C,L,S⟩:=h;simp only[Yar]at B C S;refine⟨A,c,B,C,L,λF=>?_⟩;obtain⟨b,o,n,I⟩:=S F;obtain⟨_,G,J,g,y⟩:=I 0 F;refine⟨b,o,G,J,n,g,λk j E a=>?_⟩;obtain⟨Q,M,R,W,K⟩:=I k E;rw[g]at W;cases W;rw[Xk E]at K;obtain⟨_,u,e,_,r⟩:=K j a;rw[Nv a]at r;have r:u=_:=r;rw[e,r]
theorem A2O(h:(Ep vx).rel s z):RowsAt .i64 36 s.w z vx:=ZY h
theorem A4M(h:RowsAt .i64 t s.w z vx)(r:∀b o,(∃n c,z=.slice (some ⟨b,o,none⟩) n c)->∀k,s.S b k):(slD t 8 (vx.map CM)).rel s z:=by
 obtain⟨A,c,B,C,L,S⟩:=h;refine⟨A,c,by rw[Yar];exact B,by rw[Yar];exact C,L,λF=>?_⟩;rw[Yar]at F;obtain⟨b,o,G,K,I,J,g⟩:=S F;subst I;refine⟨b,o,rfl,λk E=>?_⟩;rw[Yar]at E;rw[Xk E];refine⟨rfl,G,K,J,λj a=>⟨r b o ⟨_,_,B⟩ _,_,g k j E a,rfl,?_⟩⟩;rw[Nv a];rfl
theorem No(h:OwnRows 36 n w z vx)(d:s.w=w)(C:∀b k,n<=b->b<w.heap.size->s.S b k):(Ep vx).rel s z:=by
 subst d;refine A4M h.rows λb o ⟨A,c,r⟩ k=>?_;obtain⟨B,L⟩:=h;rcases L with⟨e,_⟩ | ⟨g,cap,cur,e,h5,h6,_⟩
 .rw [e]at r;cases r
 .rw [e]at r
  cases r;exact C _ k h5 (Bw h6)
theorem WW(h:(AP (Qk vL)).rel s z):∃(b y:Bool) (A K:Option Addr) (n c g l:Nat),z=.agg (tmc b y A K n c g l vL.m)/\IsRat s.w (.bool b) (.slice A n c) (.bool y) (.slice K g l) vL.c:=by
 obtain⟨E,rfl,B,C⟩:=h;obtain⟨b,y,A,K,n,c,g,l,rfl,L⟩:=Uo (s:=s) B C;exact⟨b,y,A,K,n,c,g,l,rfl,L⟩
theorem Pr(z:Int):Abs prog 238 [AP (Cr z)] (ex (.int .i64 z.sign)):=by
 refine BI (Ag func238 ZbI ZbI) λs K F J r=>?_;rw[vs1 J];obtain⟨t,S,A,W,m,c⟩:=DS (r 0 ZbS);rw[m];exact(A3q t S A W z _ c).mono λe N ⟨b,V⟩=>⟨_,b,V,λj d g _ _=>rfl⟩
theorem Zj(x y:Int)(f:(As x.natAbs).length<=4398046511104)(B:(As y.natAbs).length<=4398046511104):Abs prog 215 [AP (Cr x),AP (Cr y)] (AP (Cr (x*y))):=by
 refine BI (Ag func215 ZbI ZbI) λs K F J r=>?_;rw[vs2 J];obtain⟨t,S,E,W,C,c⟩:=DS (r 0 ZbS);obtain⟨I,M,G,L,Z,A⟩:=DS (r 1 ZbS);rw[C,Z];exact(A62 t I S M E W G L x y _ c A f B).mono λe N ⟨y,Y,m,k,b,i,V⟩=>⟨_,b,V,λj d g _ _=>by subst d;exact Hy g i⟩
theorem RM(a b:Nat->Int):Abs prog 297 [AP (CM a),AP (CM b)] (ex (.int .i64 (Ih a b))):=by
 refine BI (Ag func297 ZbI ZbI) λs K F J r=>?_;rw[vs2 J];have m:=Dp (r 0 ZbS);have Z:=Dp (r 1 ZbS);rw[m,Z];exact(A5m a b _).mono λe N ⟨A,V⟩=>⟨_,A,V,λj d g _ _=>rfl⟩
theorem GD(a b:Nat->Int):Abs prog 229 [AP (CM a),AP (CM b)] (ex (.int .i64 (Ih a b))):=by
 refine BI (Ag func229 ZbI ZbI) λs K F J r=>?_;rw[vs2 J];have m:=Dp (r 0 ZbS);have Z:=Dp (r 1 ZbS);rw[m,Z];exact(A3t a b _).mono λe N ⟨A,V⟩=>⟨_,A,V,λj d g _ _=>rfl⟩
theorem A5l(a b:Nat->Int)(p:In8 a 0 65535)(F:In8 b 0 65535)(h:In8 (CT a b) 0 65535):Abs prog 323 [AP (CM a),AP (CM b)] (FY [AP (CM (CT a b)),ex (.int .i64 0)]):=by
 refine BI (Ag func323 ZbI ZbI) λs K B J r=>?_;rw[vs2 J];have m:=Dp (r 0 ZbS);have Z:=Dp (r 1 ZbS);rw[m,Z];exact(A30 a b _ p F h).mono λe N ⟨A,V⟩=>⟨_,A,V,λj d g _ _=>AbY (A7o _) rfl⟩
theorem XO(a:Nat->Int)(h:In8 a (-1000000) 1000000):Abs prog 289 [AP (CM a)] (ex (.int .i64 (CV a 8))):=by
 refine BI (Ag func289 ZbI ZbI) λs K F J r=>?_;rw[vs1 J];have m:=Dp (r 0 ZbS);rw[m];exact(A1h a _ h).mono λe N ⟨b,V⟩=>⟨_,b,V,λj d g _ _=>rfl⟩
theorem VF(a:Nat->Int):Abs prog 299 [AP (CM a)] (ex (.int .u8 (suppTo a 8))):=by
 refine BI (Ag func299 ZbI ZbI) λs K F J r=>?_;rw[vs1 J];have m:=Dp (r 0 ZbS);rw[m];exact(YP a _).mono λe N ⟨b,V⟩=>⟨_,b,V,λj d g _ _=>rfl⟩
theorem KU(a:Nat->Int)(h:In8 a 0 65535):Abs prog 298 [AP (CM a)] (ex (.bool true)):=by
 refine BI (Ag func298 ZbI ZbI) λs K F J r=>?_;rw[vs1 J];have m:=Dp (r 0 ZbS);rw[m];exact(PF a _ h).mono λe N ⟨b,V⟩=>⟨_,b,V,λj d g _ _=>rfl⟩
theorem XN(a:Nat->Int)(h:¬In8 a 0 65535):Abs prog 298 [AP (CM a)] (ex (.bool false)):=by
 refine BI (Ag func298 ZbI ZbI) λs K F J r=>?_;rw[vs1 J];have m:=Dp (r 0 ZbS);rw[m];exact(VE a _ h).mono λe N ⟨b,V⟩=>⟨_,b,V,λj d g _ _=>rfl⟩
theorem A6a:Abs prog 129 [] (Ep []):=by
 refine BI (Ag func129 ZbI ZbI) λs K F J r=>?_;obtain rfl:K=[]:=YaF J;exact(A69 s.w).mono λe N ⟨A,c,b,v,V⟩=>⟨_,b,V,λj d g B _=>No v d B⟩
theorem YY:Abs prog 130 [] (Ep [BW 255]):=by
 refine BI (Ag func130 ZbI ZbI) λs K F J r=>?_;obtain rfl:K=[]:=YaF J;exact(PT s.w).mono λe N ⟨A,c,b,v,V⟩=>⟨_,b,V,λj d g B _=>No v d B⟩
theorem NM:Abs prog 131 [] (Ep revRows):=by
 refine BI (Ag func131 ZbI ZbI) λs K F J r=>?_;obtain rfl:K=[]:=YaF J;exact(NL s.w).mono λe N ⟨A,c,b,v,V⟩=>⟨_,b,V,λj d g B _=>No v d B⟩
theorem Pe(m:Nat)(x:m<256):Abs prog 132 [ex (.int .u8 m)] (Ep (BW m::revRows)):=by
 refine BI (Ag func132 ZbI ZbI) λs K F J r=>?_;rw[vs1 J];have C:K.getD 0 undef=.int .u8 m:=r 0 ZbS;rw[C];exact(Pd m _ x).mono λe N ⟨A,c,b,v,V⟩=>⟨_,b,V,λj d g B _=>No v d B⟩
theorem Tr(t u:Tm):Abs prog 50 [AP (Qk t),AP (Qk u)] (ex (.bool (tmB t u))):=by
 refine BI (Ag func50 ZbI ZbI) λs K F J r=>?_;rw[vs2 J];obtain⟨B,i,S,M,C,W,k,l,m,c⟩:=WW (r 0 ZbS);obtain⟨G,X,I,R,E,L,Q,O,Z,A⟩:=WW (r 1 ZbS);rw[m,Z];exact(Tq B i S M C W k l G X I R E L Q O t u _ c A).mono λe N ⟨b,V⟩=>⟨_,b,V,λj d g _ _=>rfl⟩
theorem A7I:(v.map AV.d)[n]? = if n<v.length then some (.d (DK v n))else none:=by
 rw[Yax];split
 .rename_i h
  simp[DK,h]
 .rename_i h
  simp[YbF (Nat.le_of_not_lt h)]
section
variable {P:Program} {hp:List Ow} {o:Oper} {arg:Operand->AV}
theorem A0N(G:o.op=.binOp .add t x y U)(E:arg x=.d (ex (.int .i64 (n:Nat))))(O:arg y=.d (ex (.int .i64 1)))(A:(n:Int)<9223372036854775807):Quiet P hp o arg (.d (ex (.int .i64 ((n+1:Nat):Int)))):=
 Quiet.add G E O ZbD ZbD
theorem Quiet.quo(G:o.op=.binOp .quo t x y U)(E:arg x=.d (ex (.int .i64 a)))(O:arg y=.d (ex (.int .i64 j)))(c:0<=a)(A:a<=9223372036854775807)(F:0<j):Quiet P hp o arg (.d (ex (.int .i64 (a/j)))):=
 CN G E O λw=>by
  have B:a/j<=a:=Int.ediv_le_self j c;have L:0<=a/j:=Int.ediv_nonneg c ZbD;have S:a.tdiv j=a/j:=YbS c;have e:IntKind.i64.wrap (a/j)=a/j:=IntWalk.i64_in _ ZbD;have C:j≠0:=by omega
  simp[eqGuard,binOp,Op.intDiv,C,S,e]
theorem Quiet.rem{k:IntKind}(G:o.op=.binOp .rem t x y U)(E:arg x=.d (ex (.int k a)))(O:arg y=.d (ex (.int k j)))(c:0<=a)(F:0<j):Quiet P hp o arg (.d (ex (.int k (a%j)))):=
 CN G E O λw=>by
  have S:a.tmod j=a%j:=Yck c;have C:j≠0:=by omega
  simp[eqGuard,binOp,Op.intDiv,C,S]
theorem A0O{k:IntKind}(G:o.op=.binOp .rem t x y U)(E:arg x=.d (ex (.int k a)))(O:arg y=.d (ex (.int k j)))(F:j≠0):Quiet P hp o arg (.d (ex (.int k (a.tmod j)))):=
 CN G E O λw=>by simp[eqGuard,binOp,Op.intDiv,F]
theorem Quiet.max{k:IntKind}(G:o.op=.call { callee:=.builtin .max,args:=#[x,y],argTypes:=vt })(E:arg x=.d (ex (.int k a)))(O:arg y=.d (ex (.int k j))):Quiet P hp o arg (.d (ex (.int k (Max.max a j)))):=by
 refine⟨λbase s W i F I d h=>?_⟩;have A:=h x ZcS;have B:=h y ZcS;rw[E]at A;rw[O]at B;have Z:i x=.int k a:=A;have C:i y=.int k j:=B;refine Cc (v:=.int k (Max.max a j)) ?_ ⟨GS.Le.refl s,rfl⟩
 have H:(if j>a then j else a)=Max.max a j:=by
  rw[Int.max_def];by_cases h:a<=j
  .rw [Yan h];split<;>omega
  .rw [Yai h,Yai ZbD]
 simp only[execOp,G,resolve,invoke,builtin,Sem.run_bind,Sem.run_pure,Result.andThen_ok,YcJ,Ybf,Ycs,Z,C,Builtin.max_,List.foldlM_cons,List.foldlM_nil,Builtin.max2,H]
theorem Quiet.min{k:IntKind}{a b:Int}(G:o.op=.call { callee:=.builtin .min,args:=#[x,y],argTypes:=vt })(E:arg x=.d (ex (.int k a)))(O:arg y=.d (ex (.int k b))):Quiet P hp o arg (.d (ex (.int k (Min.min a b)))):=by
 refine⟨λbase s W i F I d h=>?_⟩;have A:=h x ZcS;have B:=h y ZcS;rw[E]at A;rw[O]at B;have Z:i x=.int k a:=A;have C:i y=.int k b:=B;refine Cc (v:=.int k (Min.min a b)) ?_ ⟨GS.Le.refl s,rfl⟩
 have H:(if b<a then b else a)=Min.min a b:=by
  rw[Int.min_def];by_cases h:a<=b
  .rw [Yan h,Yai ZbD]
  .rw [Yai h];split<;>omega
 simp only[execOp,G,resolve,invoke,builtin,Sem.run_bind,Sem.run_pure,Result.andThen_ok,YcJ,Ybf,Ycs,Z,C,Builtin.min_,List.foldlM_cons,List.foldlM_nil,Builtin.min2,H]
theorem A3D(I:o.op=.binOp .or t x y U)(E:arg x=.d (ex (.int .u8 (n:Nat))))(O:arg y=.d (ex (.int .u8 (b:Nat))))(p:n<256)(F:b<256):Quiet P hp o arg (.d (ex (.int .u8 ((n ||| b:Nat):Int)))):=
 CN I E O λw=>by
  have A:(BitVec.ofInt 8 (n:Int) ||| BitVec.ofInt 8 (b:Int)).toNat=n ||| b:=by
   rw[YdZ,YdS,YdS,Ycx,Ycx,YaS p,YaS F]
  have B:n ||| b<256:=Yes (n:=8) p F
  have L:IntKind.u8.wrap ((n ||| b:Nat):Int)=((n ||| b:Nat):Int):=by
   unfold IntKind.wrap;have:(((n ||| b:Nat):Int))%(2^IntKind.u8.bits:Int)=((n ||| b:Nat):Int):=Int.emod_eq_of_lt ZbD (by show _<(256:Int);omega);simp[this,IntKind.signed]
  have S:(BitVec.ofInt IntKind.u8.bits (n:Int) ||| BitVec.ofInt IntKind.u8.bits (b:Int)).toNat=n ||| b:=A
  have C:n%2^IntKind.u8.bits=n:=YaS p;have G:b%2^IntKind.u8.bits=b:=YaS F;simp[eqGuard,binOp,Op.intBits,C,G,L]
theorem Wu[Inhabited e]{I:IntKind}(G:o.op=.indexAddr t x y)(E:HW hp (arg x)=some (slD k h (vu.map vH)))(O:arg y=.d (ex (.int I (vj:Nat))))(M:Tab P t (.slice n) b T z)(B:Tab P n d m c u)(F:m=h)(C:vj<vu.length):Quiet P hp o arg (.d (Fg k (vH (vu.getD vj default)))):=by
 have A:=Quiet.index (P:=P) (hp:=hp) G E O M B F ZbD Zip
 have Z:(vu.map vH).getD ((vj:Nat):Int).toNat []=vH (vu.getD vj default):=by
  show(vu.map vH).getD vj []=_;simp[Yab,C]
 rwa [Z]at A
theorem Wt(G:o.op=.load t x)(E:arg x=.d (Fg T v))(M:Tab P t d n b z)(e:Fa d=true)(f:v.length=n):Quiet P hp o arg (.d (AP v)):=by
 have:=Lq (P:=P) (hp:=hp) G E M e ZbD;rwa [<-f,YaV]at this
theorem Sy{hp:List Ow}:∀(l:List D),A0x hp (l.map .d)=some l
 |[]=>rfl
 |x::l=>by simp only[Ybf,A0x,HW,Sy l]
theorem Zb(G:o.op=.load t x)(E:arg x=.ptr m c)(s:hp[m]? = some (.var T (v.map .d)))(M:Tab P t d n b z)(e:Fa d=true)(f:Nat.ble (c+n) v.length=true):Quiet P hp o arg (.d (AP ((v.drop c).take n))):=
 Za G E s M e (by rw[<-YdT,<-YdU];exact Sy _) (by have:=YbA f;simpa using this)
theorem NR(G:o.op=.load t x)(E:arg x=.ptr m c)(s:hp[m]? = some (.var T (v.map .d)))(M:Tab P t d n b z)(e:Fa d=false)(f:c<v.length):Quiet P hp o arg (.d (DK v c)):=
 NP G E s M e (by rw[A7I,Yan f])
end
section
variable {P:Program} {s0:An} {n:Nat} {ops:Array Oper} {Q:Exit->AS->Prop} {rest:List Oper} {o:Oper} {σ:AS}
theorem A1t{b id m:Nat}(G:o.op=.store t x y)(B:o.guard=none)(C:o.dst=none)(E:σ.arg x=.ptr id 0)(O:σ.arg y=.d (AP v))(s:σ.hp[id]? = some (.var U i))(M:Tab P t d m b z)(A:v.length=m)(J:i.length=m)
  (h:AWl P s0 n ops Q rest { fr:=σ.fr,hp:=σ.hp.set id (.var U (v.map .d)) }):AWl P s0 n ops Q (o::rest) σ:=by
 refine SV G B C E O s M A ZbD ?_
 have:Kc i 0 (v.map .d)=v.map .d:=by
  unfold Kc;rw[YbX,YcH,YaL Zip,YbD]
 rw[this];exact h
theorem SU{b id m off:Nat}(G:o.op=.store t x y)(B:o.guard=none)(C:o.dst=none)(E:σ.arg x=.ptr id off)(O:σ.arg y=.d (AP vn))(s:σ.hp[id]? = some (.var U (v.map .d)))(M:Tab P t d m b z)(A:vn.length=m)(J:Nat.ble (off+m) v.length=true)
  (h:AWl P s0 n ops Q rest { fr:=σ.fr,hp:=σ.hp.set id (.var U ((TI v off vn).map .d)) }):AWl P s0 n ops Q (o::rest) σ:=by
 refine SV G B C E O s M A (by have:=YbA J;simpa using this) ?_;have:Kc (v.map .d) off (vn.map .d)=(TI v off vn).map .d:=by simp[Kc,TI]
 rw[this];exact h
theorem PX{b id off:Nat}(G:o.op=.store t x y)(B:o.guard=none)(C:o.dst=none)(E:σ.arg x=.ptr id off)(O:σ.arg y=.d r)(s:σ.hp[id]? = some (.var U (v.map .d)))(M:Tab P t d 1 b z)(A:One σ.hp (.d r))(J:off<v.length)
  (h:AWl P s0 n ops Q rest { fr:=σ.fr,hp:=σ.hp.set id (.var U ((v.set off r).map .d)) }):AWl P s0 n ops Q (o::rest) σ:=by
 refine SW G B C E O s M A ZcZ ?_;have:(v.map AV.d).set off (.d r)=(v.set off r).map .d:=by rw[List.map_set]
 rw[this];exact h
theorem A1w{m b:Nat}(G:o.op=.alloc t)(B:o.guard=none)(M:Tab P t d m b z)(k:Nat.beq t 335=false)(A:HP z.cells.toList=true)(e:VO o.dst n=true)(h:AWl P s0 n ops Q rest (σ.new o.dst (.ptr σ.hp.length 0) (.var t ((z.cells.toList.map ex).map .d)))):AWl P s0 n ops Q (o::rest) σ:=by
 refine AWl.alloc G B M (YaI k) A e ?_;have:ZB z.cells.toList=(z.cells.toList.map ex).map .d:=by simp[ZB]
 rw[this];exact h
end
def Ace(A:List (Nat×AV)):Operand->Option AV
 |.tmp t=>Ch A t
 |.const v=>some (.d (ex v))
 |.global g=>some (.d (ex (.pointer (some ⟨g,0,none⟩))))
 |.func f=>some (.d (ex (.func (.func f) #[] #[])))
theorem ao(h:Ace vc x=some g):AS.arg ⟨vc,H⟩ x=g:=by
 cases x with
 |tmp t=>
  show(Ch vc t).getD (.d CD)=g;have h:Ch vc t=some g:=h;rw[h];rfl
 |const v=>exact ZjO
 |global A=>exact ZjO
 |func f=>exact ZjO
theorem A0P{o:Oper}(G:o.op=.call { callee:=.builtin .len,args:=#[x],argTypes:=#[t] })(E:HW H (vC x)=some (slD m c (vu.map vH)))(M:Tab P t (.slice n) b T z):Quiet P H o vC (.d (ex (.int .i64 (vu.length:Nat)))):=by
 have:=Quiet.len (P:=P) G E M;rwa [Yar]at this
def PM:List (Nat×Nat)->Nat->Option Nat
 |[],_=>none
 |p::r,t=>bif Nat.beq p.1 t then some p.2 else PM r t
theorem Sb:∀{m:List (Nat×Nat)} {t j:Nat},PM m t=some j->∃p,m.find? (λp=>p.1==t)=some p/\p.2=j
 |[],_,_,h=>by cases h
 |p::r,t,j,h=>by
  unfold PM at h
  cases F:Nat.beq p.1 t with
  |true=>rw[F]at h;cases h;exact⟨p,by rw[YeD,Yao F];simp,rfl⟩
  |false=>
   rw[F]at h;obtain⟨q,A,B⟩:=Sb h;refine⟨q,?_,B⟩;rw[YeD];have:(p.1==t)=false:=by simpa using YaI F
   rw[this];exact A
theorem Sc:∀{m:List (Nat×Nat)} {t:Nat},PM m t=none->m.find? (λp=>p.1==t)=none
 |[],_,_=>rfl
 |p::r,t,h=>by
  unfold PM at h
  cases F:Nat.beq p.1 t with
  |true=>exact ZiY
  |false=>
   rw[F]at h;rw[YeD];have:(p.1==t)=false:=by simpa using YaI F
   rw[this];exact Sc h
def IR:Option HR->Option AV
 |some (.av r)=>some r
 |_=>none
def Acd(A:List (Nat×AV))(a:List HR)(m:List (Nat×Nat)):Operand->Option AV
 |.tmp t=>match PM m t with
  |some j=>IR a[j]?
  |none=>Ch A t
 |.const v=>some (.d (ex v))
 |.global _=>none
 |.func f=>some (.d (ex (.func (.func f) #[] #[])))
theorem ah{fr:List (Nat×AV)}{hp:List Ow}{rs:List HR}{es:List (Nat×Nat)}{x:Operand}{av:AV}(h:Acd fr rs es x=some av):DZ ⟨fr,hp⟩ rs es x=av:=by
 cases x with
 | tmp t=>
  replace h:(match PM es t with
   | some j=>IR rs[j]?
   | none=>Ch fr t)=some av:=h
  show (match es.find? (λp=>p.1==t) with
   | some p=>match rs[p.2]? with
    | some h=>h.val
    | none=>.d CD
   | none=>(Ch fr t).getD (.d CD))=av
  cases hf:PM es t with
  | some j=>
   rw [hf] at h
   replace h:IR rs[j]? = some av:=h
   obtain ⟨p,h1,h2⟩:=Sb hf
   simp only [h1,h2]
   cases hr:rs[j]? with
   | none=>rw [hr] at h;cases h
   | some r=>
    rw [hr] at h
    cases r with
    | av r=>cases h;rfl
    | new T cs=>cases h
  | none=>
   rw [hf] at h
   simp only [Sc hf]
   have h:Ch fr t=some av:=h
   rw [h];rfl
 | const v=>exact Yag h
 | global g=>cases h
 | func f=>exact Yag h
def Gf:List Ow->Ow->Option (List Ow)
 |[],x=>some [x]
 |o::l,x=>match Gf l x with
  |some r=>some (o::r)
  |none=>none
theorem Fd:∀{l:List Ow} {x:Ow} {r:List Ow},Gf l x=some r->r=l++[x]
 |[],x,r,h=>by cases h;rfl
 |o::l,x,r,h=>by
  unfold Gf at h;split at h
  .rename_i n b
   cases h;rw[Fd b];rfl
  .cases h
def HU:List Ow->Option Nat
 |[]=>some 0
 |_::l=>match HU l with
  |some k=>some (k+1)
  |none=>none
theorem FR:∀{l:List Ow} {k:Nat},HU l=some k->k=l.length
 |[],k,h=>by cases h;rfl
 |o::l,k,h=>by
  unfold HU at h;split at h
  .rename_i n b
   cases h;rw[FR b];rfl
  .cases h
def GZ:List Ow->Nat->Ow->Option (List Ow)
 |[],_,_=>none
 |_::l,0,x=>some (x::l)
 |o::l,i+1,x=>match GZ l i x with
  |some r=>some (o::r)
  |none=>none
theorem Fo:∀{l:List Ow} {i:Nat} {x:Ow} {r:List Ow},GZ l i x=some r->r=l.set i x
 |[],_,_,_,h=>by cases h
 |_::l,0,x,r,h=>by cases h;rfl
 |o::l,i+1,x,r,h=>by
  unfold GZ at h;split at h
  .rename_i n b
   cases h;rw[Fo b];rfl
  .cases h
def exO:List Value->Option (List D)
 |[]=>some []
 |v::l=>match exO l with
  |some r=>some (ex v::r)
  |none=>none
theorem Sj:∀{l:List Value} {r:List D},exO l=some r->r=l.map ex
 |[],r,h=>by cases h;rfl
 |v::l,r,h=>by
  unfold exO at h;split at h
  .rename_i n b
   cases h;rw[Sj b];rfl
  .cases h
def Pw:Nat->List D->Option (List D)
 |0,_=>some []
 |_+1,[]=>none
 |n+1,d::l=>match Pw n l with
  |some r=>some (d::r)
  |none=>none
theorem Ng:∀{n:Nat} {l r:List D},Pw n l=some r->r=l.take n/\n<=l.length
 |0,l,r,h=>by cases h;exact⟨rfl,Yaw _⟩
 |n+1,[],r,h=>by cases h
 |n+1,d::l,r,h=>by
  unfold Pw at h;split at h
  .rename_i C b
   cases h;obtain⟨A,B⟩:=Ng b;exact⟨by rw[A];rfl,by simpa using B⟩
  .cases h
def A4w:Nat->Nat->List D->Option (List D)
 |0,n,l=>Pw n l
 |_+1,_,[]=>none
 |o+1,n,_::l=>A4w o n l
theorem A1C:∀{o n:Nat} {l r:List D},A4w o n l=some r->r=(l.drop o).take n/\o+n<=l.length
 |0,n,l,r,h=>by
  obtain⟨A,B⟩:=Ng (n:=n) (l:=l) (r:=r) (by cases l<;>exact h);exact⟨A,by omega⟩
 |o+1,n,[],r,h=>by cases h
 |o+1,n,d::l,r,h=>by
  obtain⟨A,B⟩:=A1C (o:=o) ZdX;exact⟨A,by simp;omega⟩
def atO:Nat->List D->Option D
 |_,[]=>none
 |0,d::_=>some d
 |i+1,_::l=>atO i l
theorem VV:∀{i:Nat} {l:List D} {d:D},atO i l=some d->d=DK l i/\i<l.length
 |i,[],d,h=>by cases i<;>cases h
 |0,x::l,d,h=>by cases h;exact⟨rfl,by simp⟩
 |i+1,x::l,d,h=>by
  obtain⟨A,B⟩:=VV (i:=i) ZdX;exact⟨A,by simpa using B⟩
def A4V:List D->List D->Option (List D)
 |[],r=>some r
 |d::l,r=>match A4V l r with
  |some x=>some (d::x)
  |none=>none
theorem A1P:∀{l r x:List D},A4V l r=some x->x=l++r
 |[],r,x,h=>by cases h;rfl
 |d::l,r,x,h=>by
  unfold A4V at h;split at h
  .rename_i N b
   cases h;rw[A1P b];rfl
  .cases h
def PN:Nat->List D->Option (List D)
 |0,l=>some l
 |_+1,[]=>none
 |n+1,_::l=>PN n l
theorem Nz:∀{n:Nat} {l r:List D},PN n l=some r->r=l.drop n/\n<=l.length
 |0,l,r,h=>by cases l<;>(cases h;exact⟨rfl,Yaw _⟩)
 |n+1,[],r,h=>by cases h
 |n+1,d::l,r,h=>by
  obtain⟨A,B⟩:=Nz (n:=n) ZdX;exact⟨A,by simpa using B⟩
def UT:List D->Nat->List D->Option (List D)
 |l,0,m=>match PN m.length l with
  |some r=>A4V m r
  |none=>none
 |[],_+1,_=>none
 |d::l,o+1,m=>match UT l o m with
  |some r=>some (d::r)
  |none=>none
theorem Qn:∀{l:List D} {o:Nat} {m r:List D},UT l o m=some r->r=TI l o m/\o+m.length<=l.length
 |l,0,m,r,h=>by
  have b:(match PN m.length l with
   |some r=>A4V m r
   |none=>none)=some r:=by cases l<;>exact h
  split at b
  .rename_i n A
   obtain⟨B,L⟩:=Nz A;rw[A1P b,B];exact⟨by simp[TI],by omega⟩
  .cases b
 |[],o+1,m,r,h=>by cases h
 |d::l,o+1,m,r,h=>by
  unfold UT at h;split at h
  .rename_i n A
   cases h;obtain⟨B,L⟩:=Qn A;rw[B];refine⟨?_,by simp;omega⟩;simp only[TI,Ybi,Ycy];rw[show o+1+m.length=(o+m.length)+1 by omega,Ybp]
  .cases h
def JS(id:Nat)(x:D):List (Nat×AV)->Option (List (Nat×AV))
 |[]=>some []
 |(t,.own j)::l=>match JS id x l with
  |some r=>bif Nat.beq j id then some ((t,.d x)::r)else some ((t,.own j)::r)
  |none=>none
 |(t,.fn f Y)::l=>match JS id x l with
  |some r=>bif Y.contains id then some ((t,.d CD)::r)else some ((t,.fn f Y)::r)
  |none=>none
 |(t,I)::l=>match JS id x l with
  |some r=>some ((t,I)::r)
  |none=>none
theorem Sl{id:Nat}{x:D}:∀{l r:List (Nat×AV)},JS id x l=some r->r=l.map λp=>(p.1,down id x p.2)
 |[],r,h=>by cases h;rfl
 |(t,I)::l,r,h=>by
  have key:∃n,JS id x l=some n/\r=(t,down id x I)::n:=by
   cases I with
   |d y=>
    replace h:(match JS id x l with
     |some r=>some ((t,.d y)::r)
     |none=>none)=some r:=h
    split at h
    .rename_i n b;cases h;exact⟨n,b,rfl⟩
    .cases h
   |fn f Y=>
    replace h:(match JS id x l with
     |some r=>bif Y.contains id then some ((t,.d CD)::r)else some ((t,.fn f Y)::r)
     |none=>none)=some r:=h
    split at h
    .rename_i n b
     cases F:Y.contains id with
     |true=>rw[F]at h;cases h;exact⟨n,b,by simp only[down,F];rfl⟩
     |false=>rw[F]at h;cases h;exact⟨n,b,by simp only[down,F];rfl⟩
    .cases h
   |ptr i o=>
    replace h:(match JS id x l with
     |some r=>some ((t,.ptr i o)::r)
     |none=>none)=some r:=h
    split at h
    .rename_i n b;cases h;exact⟨n,b,rfl⟩
    .cases h
   |own j=>
    replace h:(match JS id x l with
     |some r=>bif Nat.beq j id then some ((t,.d x)::r)else some ((t,.own j)::r)
     |none=>none)=some r:=h
    split at h
    .rename_i n b
     cases F:Nat.beq j id with
     |true=>rw[F]at h;cases h;exact⟨n,b,by simp[down,F]⟩
     |false=>rw[F]at h;cases h;exact⟨n,b,by simp[down,F]⟩
    .cases h
  obtain⟨n,A,rfl⟩:=key;rw[Sl A];rfl
def Gq(id:Nat):List AV->Bool
 |[]=>true
 |.own j::l=>bif Nat.beq j id then false else Gq id l
 |.fn _ Y::l=>bif Y.contains id then false else Gq id l
 |_::l=>Gq id l
def Ic(id:Nat):List Ow->Bool
 |[]=>true
 |.var _ c::l=>Gq id c&&Ic id l
 |.pin c::l=>Gq id (c.map (·.2))&&Ic id l
 |_::l=>Ic id l
theorem GA{id:Nat}{x:D}:∀{l:List AV},Gq id l=true->l.map (down id x)=l
 |[],_=>rfl
 |.d y::l,h=>by rw[Ybf,GA ZdX];rfl
 |.ptr _ _::l,h=>by rw[Ybf,GA ZdX];rfl
 |.own j::l,h=>by
  replace h:(bif Nat.beq j id then false else Gq id l)=true:=h
  cases F:Nat.beq j id with
  |true=>exact ZiY
  |false=>rw[F]at h;rw[Ybf,GA ZdX];exact Zif
 |.fn f Y::l,h=>by
  replace h:(bif Y.contains id then false else Gq id l)=true:=h
  cases F:Y.contains id with
  |true=>exact ZiY
  |false=>rw[F]at h;rw[Ybf,GA ZdX];exact Zif
theorem Rx{x:D}:∀{l:List (Value×AV)},Gq n (l.map (·.2))=true->(l.map λp=>(p.1,down n x p.2))=l:=λ{l} h=>by
 have A:=GA (x:=x) h;apply Ycb;intro k;have B:=congrArg (λy=>y[k]?) A;simp only[Yax]at B ⊢
 cases C:l[k]? with
 |none=>rfl
 |some p=>
  rw[C]at B;simp only[Yds,Ydc]at B ⊢;rw[B]
theorem FM{id:Nat}{x:D}:∀{l:List Ow},Ic id l=true->l.map (Ow.mapA (down id x))=l
 |[],_=>rfl
 |.var T c::l,h=>by
  simp only[Ic,Yam]at h;rw[Ybf,FM h.2];simp only[Ow.mapA,GA h.1]
 |.pin c::l,h=>by
  simp only[Ic,Yam]at h;rw[Ybf,FM h.2];simp only[Ow.mapA,Rx h.1]
 |.dead::l,h=>by rw[Ybf,FM ZdX];rfl
 |.row _ _ _::l,h=>by rw[Ybf,FM ZdX];rfl
 |.obj _::l,h=>by rw[Ybf,FM ZdX];rfl
theorem PD{id:Nat}:∀l:List D,Gq id (l.map .d)=true
 |[]=>rfl
 |_::l=>PD (id:=id) l
def PlainHp(id:Nat):List Ow->Prop
 |[]=>True
 |.var _ c::l=>Gq id c=true/\PlainHp id l
 |.pin c::l=>Gq id (c.map (·.2))=true/\PlainHp id l
 |_::l=>PlainHp id l
theorem PlainHp.ok{id:Nat}:∀{l:List Ow},PlainHp id l->Ic id l=true
 |[],_=>rfl
 |.var T c::l,h=>by simp only[Ic,Yam];exact⟨h.1,PlainHp.ok h.2⟩
 |.pin c::l,h=>by simp only[Ic,Yam];exact⟨h.1,PlainHp.ok h.2⟩
 |.dead::l,h=>PlainHp.ok (l:=l) h
 |.row _ _ _::l,h=>PlainHp.ok (l:=l) h
 |.obj _::l,h=>PlainHp.ok (l:=l) h
section
variable {id:Nat} {l:List Ow}
theorem PlainHp.nil:PlainHp id []:=trivial
theorem PlainHp.var{c:List D}(h:PlainHp id l):PlainHp id (.var t (c.map .d)::l):=⟨PD c,h⟩
theorem PlainHp.varA{c:List AV}(I:Gq id c=true)(h:PlainHp id l):PlainHp id (.var t c::l):=⟨I,h⟩
theorem PlainHp.pin{c:List (Value×AV)}(I:Gq id (c.map (·.2))=true)(h:PlainHp id l):PlainHp id (.pin c::l):=⟨I,h⟩
theorem PlainHp.row{T sz:Nat}{r:List (List D)}(h:PlainHp id l):PlainHp id (.row T sz r::l):=h
end
def VY:List (Nat×AV)->List Ow->Nat->List Oper->List HR->Option AS
 |f,G,0,_,_=>some ⟨f,G⟩
 |f,G,m+1,o::L,.av r::a=>match o.dst with
  |some d=>VY ((d,r)::f) G m L a
  |none=>VY f G m L a
 |f,G,m+1,o::L,.new T h::a=>match o.dst,HU G,exO h with
  |some d,some k,some c=>match Gf G (.var T (c.map .d))with
   |some z=>VY ((d,.ptr k 0)::f) z m L a
   |none=>none
  |_,_,_=>none
 |_,_,_,_,_=>none
theorem QD:∀{m:Nat} {f:List (Nat×AV)} {G:List Ow} {L:List Oper} {a:List HR} {B:AS},VY f G m L a=some B->a.length=m->B=AS.aft ⟨f,G⟩ (L.take m) a
 |0,f,G,L,a,B,h,J=>by
  obtain rfl:a=[]:=YaF J;cases L<;>(cases h;rfl)
 |m+1,f,G,[],[],B,h,J=>by cases J
 |m+1,f,G,[],r::a,B,h,J=>by cases r<;>cases h
 |m+1,f,G,o::L,[],B,h,J=>by cases J
 |m+1,f,G,o::L,.av r::a,B,h,J=>by
  rw[Ybi];have J:a.length=m:=by simpa using J
  unfold VY at h
  cases e:o.dst with
  |some d=>
   rw[e]at h;have:=QD h J;rw[this];simp only[AS.aft,AS.put,e]
  |none=>
   rw[e]at h;have:=QD h J;rw[this];simp only[AS.aft,AS.put,e]
 |m+1,f,G,o::L,.new T A::a,B,h,J=>by
  rw[Ybi];have J:a.length=m:=by simpa using J
  unfold VY at h;split at h
  .rename_i d k c e C I
   split at h
   .rename_i z Y
    have:=QD h J;rw[this];have Z:=Fd Y;have s:=FR C;have H:=Sj I;subst Z;subst s;subst H;simp only[AS.aft,AS.new,AS.put,e];congr 3;simp[ZB]
   .cases h
  .cases h
section
variable {P:Program} {s0:An} {n:Nat} {ops:Array Oper} {Q:Exit->AS->Prop} {rest:List Oper} {o:Oper} {fr:List (Nat×AV)} {hp:List Ow}
theorem AWl.q{d:Nat}{r:AV}(B:o.dst=some d)(A:o.guard=none)(Y:BN o.op=true)(e:Nat.blt d n=true)(l:Quiet P hp o (AS.arg ⟨fr,hp⟩) r)(h:AWl P s0 n ops Q rest ⟨(d,r)::fr,hp⟩):AWl P s0 n ops Q (o::rest) ⟨fr,hp⟩:=
 A44 A Y (by rw[B];exact e) l (by rw[B];exact h)
theorem AaD{d:Nat}(A:o.guard=some (b,p))(O:(ops[b]?).bind (·.dst)=some T)(J:Ch fr T=some (.d (ex (.bool p))))(B:Nat.blt T n=true)(C:o.dst=some d)(Y:BN o.op=true)(e:Nat.blt d n=true)(l:Quiet P hp o (AS.arg ⟨fr,hp⟩) g)(h:AWl P s0 n ops Q rest ⟨(d,g)::fr,hp⟩):AWl P s0 n ops Q (o::rest) ⟨fr,hp⟩:=
 A1u A O J (by simpa[Ybm]using B) Y (by rw[C];exact e) l (by rw[C];exact h)
theorem AaC{d:Nat}(A:o.guard=some (b,p))(O:(ops[b]?).bind (·.dst)=some T)(J:Ch fr T=some (.d (ex z)))(C:isB z p=false)(B:Nat.blt T n=true)(E:o.dst=some d)(e:Nat.blt d n=true)(h:AWl P s0 n ops Q rest ⟨(d,.d (ex undef))::fr,hp⟩):AWl P s0 n ops Q (o::rest) ⟨fr,hp⟩:=
 A43 A O J C (by simpa[Ybm]using B) (by rw[E];exact e) (by rw[E];exact h)
theorem AWl.al{m b k B:Nat}(G:o.op=.alloc t)(J:o.dst=some B)(E:o.guard=none)(M:Tab P t d m b z)(F:Nat.beq t 335=false)(A:HP z.cells.toList=true)(e:Nat.blt B n=true)(I:exO z.cells.toList=some v)(C:HU hp=some k)(Y:Gf hp (.var t (v.map .d))=some H)(h:AWl P s0 n ops Q rest ⟨(B,.ptr k 0)::fr,H⟩):AWl P s0 n ops Q (o::rest) ⟨fr,hp⟩:=by
 refine A1w G E M F A (by rw[J];exact e) ?_;rw[Sj I]at Y;rw[Fd Y,FR C]at h;simp only[AS.new,AS.put,J];exact h
theorem AaF{k A:Nat}(G:o.op=.box t x)(I:o.dst=some A)(B:o.guard=none)(E:AS.arg ⟨fr,hp⟩ x=.d (AP v))(F:Nat.beq t 335=false)(e:Nat.blt A n=true)(C:HU hp=some k)(Y:Gf hp (.var t (v.map .d))=some H)(h:AWl P s0 n ops Q rest ⟨(A,.ptr k 0)::fr,H⟩):AWl P s0 n ops Q (o::rest) ⟨fr,hp⟩:=by
 refine AWl.box G B E (YaI F) (by rw[I];exact e) ?_;rw[Fd Y,FR C]at h;simp only[AS.new,AS.put,I];exact h
theorem A8r{k B:Nat}(G:o.op=.box t x)(J:o.dst=some B)(F:o.guard=none)(E:AS.arg ⟨fr,hp⟩ x=.d (ex z))(A:z.oneCell'=true)(I:Nat.beq t 335=false)(e:Nat.blt B n=true)(C:HU hp=some k)(Y:Gf hp (.var t ([ex z].map .d))=some H)(h:AWl P s0 n ops Q rest ⟨(B,.ptr k 0)::fr,H⟩):AWl P s0 n ops Q (o::rest) ⟨fr,hp⟩:=by
 refine A6J G F E A (YaI I) (by rw[J];exact e) ?_;rw[Fd Y,FR C]at h;simp only[AS.new,AS.put,J];exact h
theorem A8n{b id m:Nat}(G:o.op=.store t x y)(B:o.guard=none)(C:o.dst=none)(E:AS.arg ⟨fr,hp⟩ x=.ptr id 0)(O:AS.arg ⟨fr,hp⟩ y=.d (AP v))(s:hp[id]? = some (.var U i))(M:Tab P t d m b z)(A:v.length=m)(J:i.length=m)(Y:GZ hp id (.var U (v.map .d))=some H)
  (h:AWl P s0 n ops Q rest ⟨fr,H⟩):AWl P s0 n ops Q (o::rest) ⟨fr,hp⟩:=
 A1t G B C E O s M A J (by rw[Fo Y]at h;exact h)
theorem A8o{b id m off:Nat}(G:o.op=.store t x y)(B:o.guard=none)(F:o.dst=none)(E:AS.arg ⟨fr,hp⟩ x=.ptr id off)(O:AS.arg ⟨fr,hp⟩ y=.d (AP vn))(C:hp[id]? = some (.var U (v.map .d)))(M:Tab P t d m b z)(A:vn.length=m)(I:UT v off vn=some xb)(Y:GZ hp id (.var U (xb.map .d))=some H)
  (h:AWl P s0 n ops Q rest ⟨fr,H⟩):AWl P s0 n ops Q (o::rest) ⟨fr,hp⟩:=by
 obtain⟨Z,s⟩:=Qn I;refine SU G B F E O C M A (by rw[<-A];exact YcZ s) ?_;rw[Fo Y,Z]at h;exact h
theorem A6H{b id off:Nat}(G:o.op=.store t x y)(C:o.guard=none)(J:o.dst=none)(E:AS.arg ⟨fr,hp⟩ x=.ptr id off)(O:AS.arg ⟨fr,hp⟩ y=.d r)(F:hp[id]? = some (.var U (v.map .d)))(M:Tab P t d 1 b z)(A:One hp (.d r))(I:UT v off [r]=some vn)(Y:GZ hp id (.var U (vn.map .d))=some H)
  (h:AWl P s0 n ops Q rest ⟨fr,H⟩):AWl P s0 n ops Q (o::rest) ⟨fr,hp⟩:=by
 obtain⟨Z,s⟩:=Qn I;have B:off<v.length:=s;refine PX G C J E O F M A B ?_;rw[Fo Y,Z]at h
 have:TI v off [r]=v.set off r:=by
  unfold TI;exact ZiV
 rw[this]at h;exact h
theorem AWl.app{t T K k bytes id m b e:Nat}(G:o.op=.call { callee:=.builtin .append,args:=#[x,y],argTypes:=#[t,t] })(J:o.dst=some e)(C:o.guard=none)(E:AS.arg ⟨fr,hp⟩ x=.own id)(O:HW hp (AS.arg ⟨fr,hp⟩ y)=some (slD K k ul))(s:hp[id]? = some (.row T k vm))(M:Tab P t (.slice T) m b u)(F:Tab P T d k bytes z)(L:z.cells.size=k)(A:Nat.blt e n=true)(I:(vm.length+ul.length)*bytes<=140737488355328)(U:vm.length+ul.length<=4611686018427387904)
  (B:JS id (slD T k vm) fr=some vc) (a:PlainHp id hp) (Y:GZ hp id (.row T k (vm++ul))=some H) (h:AWl P s0 n ops Q rest ⟨(e,.own id)::vc,H⟩):AWl P s0 n ops Q (o::rest) ⟨fr,hp⟩:=by
 refine SX G C E O s M F L (by rw[J];exact A) I U ?_;rw[Fo Y,Sl B]at h;simp only[AS.appd,AS.put,J,FM a.ok];exact h
theorem AaG{t T m b B bytes k e:Nat}(G:o.op=.buildSlice t 0 #[])(I:o.dst=some e)(E:o.guard=none)(M:Tab P t (.slice T) m b u)(F:Tab P T d B bytes z)(y:Nat.beq T 335=false)(c:Nat.blt 0 B=true)(A:Nat.blt e n=true)(C:HU hp=some k)(Y:Gf hp (.row T B [])=some H)(h:AWl P s0 n ops Q rest ⟨(e,.own k)::fr,H⟩):AWl P s0 n ops Q (o::rest) ⟨fr,hp⟩:=by
 refine A1v G E M F (YaI y) (by simpa[Ybm]using c) (by rw[I];exact A) ?_;rw[Fd Y,FR C]at h;simp only[AS.new,AS.put,I];exact h
theorem A8q{t T m b B bytes k e:Nat}(G:o.op=.makeSlice t x y)(L:o.dst=some e)(F:o.guard=none)(E:AS.arg ⟨fr,hp⟩ x=.d (ex (.int .i64 0)))(O:AS.arg ⟨fr,hp⟩ y=.d (ex (.int .i64 a)))(M:Tab P t (.slice T) m b u)(J:Tab P T d B bytes z)(N:0<=a)(I:a<=1000000000)(K:Nat.ble bytes 65536=true)(R:Nat.beq T 335=false)(c:Nat.blt 0 B=true)(A:Nat.blt e n=true)(C:HU hp=some k)(Y:Gf hp (.row T B [])=some H)(h:AWl P s0 n ops Q rest ⟨(e,.own k)::fr,H⟩):AWl P s0 n ops Q (o::rest) ⟨fr,hp⟩:=by
 refine A45 G F E O M J N I (YbA K) (YaI R) (by simpa[Ybm]using c) (by rw[L];exact A) ?_;rw[Fd Y,FR C]at h;simp only[AS.new,AS.put,L];exact h
theorem AWp.dr{id:Nat}{L:List Oper}(x:DrawOk P s0 n id vY L vk Q)(m:List (List (Nat×Nat)))(u:List (List Nat))(rs:List HR)(q:(m.length==u.length&&m.length==rs.length&&Nat.ble rs.length L.length)=true)(F:Ed L (Gg 0 m u)=true)(e:HH L m.length n=true)(steps:HSteps P ⟨fr,hp⟩ rs L m rs)
  (p:VY fr hp rs.length L rs=some ve) (tail:AWl P s0 n L.toArray Q (L.drop m.length) ve):AWp P s0 n (.region id vY true) vk ⟨fr,hp⟩:=by
 refine A6G x m u rs q F e steps ?_;simp only[Yam,YcD]at q;rw[q.1.2,<-QD p rfl,<-q.1.2];exact tail
end
section
variable {P:Program} {hp:List Ow} {o:Oper} {arg:Operand->AV}
theorem A3E(G:o.op=.load t x)(E:arg x=.d (Fg T v))(M:Tab P t d n b z)(e:Fa d=true)(X:Pw n v=some vn):Quiet P hp o arg (.d (AP vn)):=by
 obtain⟨Z,s⟩:=Ng X;rw[Z];exact Lq G E M e s
theorem A0Q(G:o.op=.load t x)(E:arg x=.d (Fg T v))(M:Tab P t d n b z)(e:Fa d=false)(X:atO 0 v=some r):Quiet P hp o arg (.d r):=by
 obtain⟨Z,s⟩:=VV X;rw[Z];exact NQ G E M e s
theorem A3F(G:o.op=.load t x)(E:arg x=.ptr m c)(A:hp[m]? = some (.var T (v.map .d)))(M:Tab P t d n b z)(e:Fa d=true)(X:A4w c n v=some vn):Quiet P hp o arg (.d (AP vn)):=by
 obtain⟨Z,s⟩:=A1C X;rw[Z];exact Zb G E A M e (YcZ s)
theorem A0R(G:o.op=.load t x)(E:arg x=.ptr m c)(A:hp[m]? = some (.var T (v.map .d)))(M:Tab P t d n b z)(e:Fa d=false)(X:atO c v=some r):Quiet P hp o arg (.d r):=by
 obtain⟨Z,s⟩:=VV X;rw[Z];exact NR G E A M e s
theorem Quiet.ext{i:Nat}(G:o.op=.extract x i)(E:arg x=.d (FY v))(X:atO i v=some r):Quiet P hp o arg (.d r):=by
 obtain⟨Z,s⟩:=VV X;rw[Z];exact Quiet.extract G E s
theorem A0T(G:o.op=.fieldAddr t x n)(E:arg x=.d (Fg k v))(r:Tab P t (.struct vU) b T z)(B:vU[n]? = some vZ)(A:Tab P vZ.type d m c u)(f:Nat.beq m 0=false)(X:PN vZ.offset v=some vn):Quiet P hp o arg (.d (Fg k vn)):=by
 obtain⟨Z,s⟩:=Nz X;rw[Z];exact NU G E r B A (YaI f)
theorem A0S(G:o.op=.fieldAddr t x n)(E:arg x=.ptr k h)(r:Tab P t (.struct vU) b T z)(B:vU[n]? = some vZ)(A:Tab P vZ.type d m c u)(f:Nat.beq m 0=false):Quiet P hp o arg (.ptr k (h+vZ.offset)):=
 Ww G E r B A (YaI f)
end
def CR:BinOp->Int->Int->Prop
 |.eql,a,b=>a=b
 |.neq,a,b=>a≠b
 |.lss,a,b=>a<b
 |.leq,a,b=>a<=b
 |.gtr,a,b=>b<a
 |.geq,a,b=>b<=a
 |_,_,_=>False
def Ud:BinOp->Bool
 |.eql |.neq |.lss |.leq |.gtr |.geq=>true
 |_=>false
section
variable {P:Program} {hp:List Ow} {o:Oper} {arg:Operand->AV}
theorem A0U{k:IntKind}(G:o.op=.binOp vW t x y U)(F:Ud vW=true)(E:arg x=.d (ex (.int k a)))(O:arg y=.d (ex (.int k j)))(I:CR vW a j):Quiet P hp o arg (.d (ex (.bool true))):=by
 refine Pf G E O ?_;cases vW<;>first | (simp only[CR]at I;simp[Yq,I];done) | (simp only[CR]at I;simp[Yq];omega) | exact absurd F ZbH
theorem A0V{k:IntKind}(G:o.op=.binOp vW t x y U)(F:Ud vW=true)(E:arg x=.d (ex (.int k a)))(O:arg y=.d (ex (.int k j)))(I:¬CR vW a j):Quiet P hp o arg (.d (ex (.bool false))):=by
 refine Pf G E O ?_;cases vW<;>first | (simp only[CR]at I;simp[Yq,I];done) | (simp only[CR]at I;simp[Yq];omega) | exact absurd F ZbH
theorem Wv{a:e}{C:IntKind}(G:o.op=.indexAddr t x y)(E:HW hp (arg x)=some (slD k h ((a::vu).map vH)))(O:arg y=.d (ex (.int C 0)))(M:Tab P t (.slice n) b T z)(A:Tab P n d m c u)(B:m=h):Quiet P hp o arg (.d (Fg k (vH a))):=
 Quiet.index (P:=P) (hp:=hp) G E O M A B ZbD ZbS
theorem Zc{A n b g C T k i:Nat}(G:o.op=.slice t x (some y) none none)(E:HW hp (arg x)=some (slD T k (vu.map vH)))(O:arg y=.d (ex (.int .i64 (i:Nat))))(M:Tab P t (.slice A) n b z)(B:Tab P A d g C u)(F:g=k)(K:i<=vu.length):Quiet P hp o arg (.d (slD T k ((vu.drop i).map vH))):=by
 have h:=Quiet.slice (P:=P) (hp:=hp) (i:=(i:Nat)) (j:=((vu.map vH).length:Nat)) G E M B F (.inl ⟨y,rfl,O⟩) (.inr ⟨rfl,rfl⟩) ZbD Zip ZbD
 have Z:((vu.map vH).take (((vu.map vH).length:Nat):Int).toNat).drop ((i:Nat):Int).toNat=(vu.drop i).map vH:=by
  rw[show(((vu.map vH).length:Nat):Int).toNat=(vu.map vH).length from rfl,YaV,YdT];rfl
 rwa [Z]at h
theorem YZ{A n b g C T k i:Nat}(G:o.op=.slice t x none (some y) none)(E:HW hp (arg x)=some (slD T k (vu.map vH)))(O:arg y=.d (ex (.int .i64 (i:Nat))))(M:Tab P t (.slice A) n b z)(B:Tab P A d g C u)(F:g=k)(K:i<=vu.length):Quiet P hp o arg (.d (slD T k ((vu.take i).map vH))):=by
 have h:=Quiet.slice (P:=P) (hp:=hp) (i:=0) (j:=(i:Nat)) G E M B F (.inr ⟨rfl,rfl⟩) (.inl ⟨y,rfl,O⟩) ZbD ZbD Zip
 have Z:((vu.map vH).take ((i:Nat):Int).toNat).drop ((0:Nat):Int).toNat=(vu.take i).map vH:=by
  show((vu.map vH).take i).drop 0=_;rw[YaU,YdU]
 exact Z▸h
end
theorem IG(f:e->List D)(l:List e)(a:e):l.map f++[f a]=(l++[a]).map f:=by simp
theorem AaE{s0:An}{rest:List Oper}(E:va.dst=some b)(C:va.guard=none)(Y:BN va.op=true)(e:Nat.blt b n=true)(h:∃r,Quiet P H va (AS.arg ⟨vc,H⟩) r/\AWl P s0 n vY vk rest ⟨(b,r)::vc,H⟩):AWl P s0 n vY vk (va::rest) ⟨vc,H⟩:=by
 obtain⟨r,A,B⟩:=h;exact AWl.q E C Y e A B
theorem A8p{s0:An}{rest:List Oper}(C:va.guard=some (T,p))(O:(vY[T]?).bind (·.dst)=some m)(J:Ch vc m=some (.d (ex (.bool p))))(E:Nat.blt m n=true)(F:va.dst=some b)(Y:BN va.op=true)(e:Nat.blt b n=true)(h:∃r,Quiet P H va (AS.arg ⟨vc,H⟩) r/\AWl P s0 n vY vk rest ⟨(b,r)::vc,H⟩):AWl P s0 n vY vk (va::rest) ⟨vc,H⟩:=by
 obtain⟨r,A,B⟩:=h;exact AaD C O J E F Y e A B
def Ri:List HR->HR->Option (List HR)
 |[],x=>some [x]
 |o::l,x=>match Ri l x with
  |some r=>some (o::r)
  |none=>none
theorem Xf:∀{l:List HR} {x:HR} {r:List HR},Ri l x=some r->r=l++[x]
 |[],x,r,h=>by cases h;rfl
 |o::l,x,r,h=>by
  unfold Ri at h;split at h
  .rename_i n b
   cases h;rw[Xf b];rfl
  .cases h
def HS(P:Program)(d:AS)(K:List HR->Prop):List HR->List Oper->List (List (Nat×Nat))->Prop
 |u,_,[]=>K u
 |u,o::L,e::m=>∃r,HStep P d u e o r/\∃t,Ri u r=some t/\HS P d K t L m
 |_,[],_::_=>False
def Ny:Nat->List Oper->List (List (Nat×Nat))->Bool
 |_,_,[]=>true
 |i,o::L,e::m=>e.all (λp=>Nat.blt p.2 i)&&(match o.guard with |some (j,_)=>Nat.blt j i |none=>true)&&Ny (i+1) L m
 |_,[],_::_=>false
theorem Us{u B:List HR}(h:∀p∈vv,p.2<u.length):DZ ve (u++B) vv=DZ ve u vv:=by
 funext x
 cases x with
 |tmp t=>
  show(match vv.find? (λp=>p.1==t)with
   |some p=>match (u++B)[p.2]? with
    |some h=>h.val
    |none=>.d CD
   |none=>_)=(match vv.find? (λp=>p.1==t)with
   |some p=>match u[p.2]? with
    |some h=>h.val
    |none=>.d CD
   |none=>_)
  cases A:vv.find? (λp=>p.1==t)with
  |none=>rfl
  |some p=>
   simp only;rw[Yau (h p (Ybl A))]
 |const v=>rfl
 |global g=>rfl
 |func f=>rfl
theorem HStep.more{acc G:List HR}{r:HR}(h:HStep P ve acc vv va r)(C:∀p∈vv,p.2<acc.length)(F:∀j b,va.guard=some (j,b)->j<acc.length):HStep P ve (acc++G) vv va r:=by
 cases r with
 |av r=>
  rcases h with⟨A,B⟩ | ⟨j,b,c,A,B,h3⟩
  .exact .inl ⟨A,by rw[Us C];exact B⟩
  .refine .inr ⟨j, b, c, A, by rw [Yau (F j b A)]; exact B, ?_⟩
   rw[Us C];exact h3
 |new T E=>exact h
theorem Zk{P:Program}{σ:AS}{K:List HR->Prop}:∀{es:List (List (Nat×Nat))} {L:List Oper} {acc:List HR},Ny acc.length L es=true->HS P σ K acc L es->∃more,more.length=es.length/\HSteps P σ (acc++more) L es more/\K (acc++more)
 | [],L,acc,_,h=>by
  refine ⟨[],rfl,HSteps.nil,?_⟩
  rw [YbD]
  cases L<;>exact h
 | e::es,[],acc,he,h=>by cases he
 | e::es,o::L,acc,he,h=>by
  obtain ⟨r,h1,acc',h2,h3⟩:=h
  have e1:=Xf h2
  subst e1
  simp only [Ny,Yam] at he
  obtain ⟨⟨he1,he2⟩,he3⟩:=he
  obtain ⟨more,h4,h5,h6⟩:=Zk (acc:=acc++[r]) (by simpa using he3) h3
  rw [Yaf,List.singleton_append] at h5 h6
  refine ⟨r::more,by simp [h4],⟨h1.more (λp hp=>?_) λj b hj=>?_,h5⟩,h6⟩
  .have:=Yaj.1 he1 p hp
   simpa [Ybm] using this
  .rw [hj] at he2
   simpa [Ybm] using he2
theorem QM{P:Program}{s0:An}{n:Nat}{Q Q0:Exit->AS->Prop}{fr:List (Nat×AV)}{hp:List Ow}{id:Nat}{L0:Array Oper}{L:List Oper}(hm:DrawOk P s0 n id L0 L Q0 Q)(es:List (List (Nat×Nat)))(bs:List (List Nat))(hlen:(es.length==bs.length&&Nat.ble es.length L.length)=true)(hok:Ed L (Gg 0 es bs)=true)(hd:HH L es.length n=true)(hlt:Ny 0 L es=true)
  (h:HS P ⟨fr,hp⟩ (λrs=>∃τ,VY fr hp es.length L rs=some τ/\AWl P s0 n L.toArray Q (L.drop es.length) τ) [] L es):AWp P s0 n (.region id L0 true) Q0 ⟨fr,hp⟩:=by
 obtain ⟨rs,h1,h2,τ,h3,h4⟩:=Zk (acc:=[]) hlt h
 simp only [YcH] at h2 h3
 simp only [Yam,YcD] at hlen
 exact AWp.dr hm es bs rs (by simp only [Yam,YcD];exact ⟨⟨hlen.1,h1.symm⟩,by rw [h1];exact hlen.2⟩) hok hd h2 (by rw [h1];exact h3) h4
section
variable {P:Program} {hp:List Ow} {arg:Operand->AV} {dd:Option Tmp} {ty:TypeId} {ps:String} {af:Array Edge} {gd:Option (Nat×Bool)}
theorem A12(E:HW hp (arg x)=some (slD m c vm))(M:Tab P t (.slice n) b T z):Quiet P hp ⟨dd,.call { callee:=.builtin .len,args:=#[x],argTypes:=#[t] },ty,ps,af,gd⟩ arg (.d (ex (.int .i64 vm.length))):=Quiet.len (o:=⟨dd,.call { callee:=.builtin .len,args:=#[x],argTypes:=#[t] },ty,ps,af,gd⟩) rfl E M
theorem Bi{A:Type}{e n b T k:Nat}{f:A->List D}{l:List A}(E:HW hp (arg x)=some (slD T k (l.map f)))(M:Tab P t (.slice e) n b z):Quiet P hp ⟨dd,.call { callee:=.builtin .len,args:=#[x],argTypes:=#[t] },ty,ps,af,gd⟩ arg (.d (ex (.int .i64 (l.length:Nat)))):=A0P (o:=⟨dd,.call { callee:=.builtin .len,args:=#[x],argTypes:=#[t] },ty,ps,af,gd⟩) rfl E M
theorem Ir{f:e->List D}{a:e}{l:List e}(E:HW hp (arg x)=some (slD k h ((a::l).map f)))(O:arg y=.d (ex (.int o 0)))(M:Tab P t (.slice n) b T z)(A:Tab P n d m c u)(B:m=h):Quiet P hp ⟨dd,.indexAddr t x y,ty,ps,af,gd⟩ arg (.d (Fg k (f a))):=Wv (o:=⟨dd,.indexAddr t x y,ty,ps,af,gd⟩) rfl E O M A B
theorem Ob(E:HW hp (arg x)=some (slD k h (vu.map vH)))(O:arg y=.d (ex (.int .i64 (vj:Nat))))(M:Tab P t (.slice n) b T z)(A:Tab P n d m c u)(B:m=h)(K:vj<=vu.length):Quiet P hp ⟨dd,.slice t x (some y) none none,ty,ps,af,gd⟩ arg (.d (slD k h ((vu.drop vj).map vH))):=Zc (o:=⟨dd,.slice t x (some y) none none,ty,ps,af,gd⟩) rfl E O M A B K
theorem NX(E:HW hp (arg x)=some (slD k h (vu.map vH)))(O:arg y=.d (ex (.int .i64 (vj:Nat))))(M:Tab P t (.slice n) b T z)(A:Tab P n d m c u)(B:m=h)(K:vj<=vu.length):Quiet P hp ⟨dd,.slice t x none (some y) none,ty,ps,af,gd⟩ arg (.d (slD k h ((vu.take vj).map vH))):=YZ (o:=⟨dd,.slice t x none (some y) none,ty,ps,af,gd⟩) rfl E O M A B K
theorem CE{G:Type}[Inhabited G]{e n b g F T B k:Nat}{f:G->List D}{l:List G}(E:HW hp (arg x)=some (slD T B (l.map f)))(O:arg y=.d (ex (.int o (k:Nat))))(M:Tab P t (.slice e) n b z)(A:Tab P e d g F u)(I:g=B)(C:k<l.length):Quiet P hp ⟨dd,.indexAddr t x y,ty,ps,af,gd⟩ arg (.d (Fg T (f (l.getD k default)))):=Wu (o:=⟨dd,.indexAddr t x y,ty,ps,af,gd⟩) rfl E O M A I C
theorem Pn{T U:TypeId}(E:arg x=.d (ex (.int .i64 a)))(O:arg y=.d (ex (.int .i64 j)))(A:-9223372036854775808<=a+j)(B:a+j<=9223372036854775807):Quiet P hp ⟨dd,.binOp .add T x y U,ty,ps,af,gd⟩ arg (.d (ex (.int .i64 (a+j)))):=Quiet.add (o:=⟨dd,.binOp .add T x y U,ty,ps,af,gd⟩) rfl E O A B
theorem Pg(E:arg x=.d (ex (.int .i64 a)))(O:arg y=.d (ex (.int .i64 j)))(A:-9223372036854775808<=a-j)(B:a-j<=9223372036854775807):Quiet P hp ⟨dd,.binOp .sub t x y U,ty,ps,af,gd⟩ arg (.d (ex (.int .i64 (a-j)))):=Quiet.sub (o:=⟨dd,.binOp .sub t x y U,ty,ps,af,gd⟩) rfl E O A B
theorem WA{T U:TypeId}(E:arg x=.d (ex (.int .i64 a)))(O:arg y=.d (ex (.int .i64 j)))(A:-9223372036854775808<=a*j)(B:a*j<=9223372036854775807):Quiet P hp ⟨dd,.binOp .mul T x y U,ty,ps,af,gd⟩ arg (.d (ex (.int .i64 (a*j)))):=Quiet.mul (o:=⟨dd,.binOp .mul T x y U,ty,ps,af,gd⟩) rfl E O A B
theorem Ik(E:arg x=.d (ex (.int .i64 (n:Nat))))(O:arg y=.d (ex (.int .i64 1)))(A:(n:Int)<9223372036854775807):Quiet P hp ⟨dd,.binOp .add t x y U,ty,ps,af,gd⟩ arg (.d (ex (.int .i64 ((n+1:Nat):Int)))):=A0N (o:=⟨dd,.binOp .add t x y U,ty,ps,af,gd⟩) rfl E O A
theorem Wx(E:arg x=.d (ex (.int .i64 a)))(O:arg y=.d (ex (.int .i64 j)))(c:0<=a)(A:a<=9223372036854775807)(F:0<j):Quiet P hp ⟨dd,.binOp .quo t x y U,ty,ps,af,gd⟩ arg (.d (ex (.int .i64 (a/j)))):=Quiet.quo (o:=⟨dd,.binOp .quo t x y U,ty,ps,af,gd⟩) rfl E O c A F
theorem SG(E:arg x=.d (ex (.int o a)))(O:arg y=.d (ex (.int o j)))(c:0<=a)(F:0<j):Quiet P hp ⟨dd,.binOp .rem t x y U,ty,ps,af,gd⟩ arg (.d (ex (.int o (a%j)))):=Quiet.rem (o:=⟨dd,.binOp .rem t x y U,ty,ps,af,gd⟩) rfl E O c F
theorem QF(E:arg x=.d (ex (.int o a)))(O:arg y=.d (ex (.int o j)))(F:j≠0):Quiet P hp ⟨dd,.binOp .rem t x y U,ty,ps,af,gd⟩ arg (.d (ex (.int o (a.tmod j)))):=A0O (o:=⟨dd,.binOp .rem t x y U,ty,ps,af,gd⟩) rfl E O F
theorem WF(E:arg x=.d (ex (.int o a)))(O:arg y=.d (ex (.int o j)))(I:Yq vW a j=some p):Quiet P hp ⟨dd,.binOp vW t x y U,ty,ps,af,gd⟩ arg (.d (ex (.bool p))):=Pf (o:=⟨dd,.binOp vW t x y U,ty,ps,af,gd⟩) rfl E O I
theorem GV(F:Ud vW=true)(E:arg x=.d (ex (.int o a)))(O:arg y=.d (ex (.int o j)))(I:CR vW a j):Quiet P hp ⟨dd,.binOp vW t x y U,ty,ps,af,gd⟩ arg (.d (ex (.bool true))):=A0U (o:=⟨dd,.binOp vW t x y U,ty,ps,af,gd⟩) rfl F E O I
theorem Im(F:Ud vW=true)(E:arg x=.d (ex (.int o a)))(O:arg y=.d (ex (.int o j)))(I:¬CR vW a j):Quiet P hp ⟨dd,.binOp vW t x y U,ty,ps,af,gd⟩ arg (.d (ex (.bool false))):=A0V (o:=⟨dd,.binOp vW t x y U,ty,ps,af,gd⟩) rfl F E O I
theorem Wz(E:arg x=.d (ex (.bool p))):Quiet P hp ⟨dd,.unOp .not t x,ty,ps,af,gd⟩ arg (.d (ex (.bool (!p)))):=Quiet.not (o:=⟨dd,.unOp .not t x,ty,ps,af,gd⟩) rfl E
theorem HK(E:arg y=g)(I:arg x=.d (ex (.bool true))):Quiet P hp ⟨dd,.pick x y vS,ty,ps,af,gd⟩ arg g:=PU (o:=⟨dd,.pick x y vS,ty,ps,af,gd⟩) rfl E I
theorem JX(O:arg vS=g)(I:arg x=.d (ex (.bool false))):Quiet P hp ⟨dd,.pick x y vS,ty,ps,af,gd⟩ arg g:=PV (o:=⟨dd,.pick x y vS,ty,ps,af,gd⟩) rfl O I
theorem QJ{k W:IntKind}(E:arg x=.d (ex (.int k a)))(r:Tab P t d n b z)(A:Tab P U (.int W) T m u):Quiet P hp ⟨dd,.convert t U x,ty,ps,af,gd⟩ arg (.d (ex (.int W (W.wrap a)))):=SE (o:=⟨dd,.convert t U x,ty,ps,af,gd⟩) rfl E r A
theorem QI(E:arg x=.d (Fg k v))(r:Tab P t (.struct vU) b T z)(B:vU[n]? = some vZ)(A:Tab P vZ.type d m c u)(f:Nat.beq m 0=false)(X:PN vZ.offset v=some vn):Quiet P hp ⟨dd,.fieldAddr t x n,ty,ps,af,gd⟩ arg (.d (Fg k vn)):=A0T (o:=⟨dd,.fieldAddr t x n,ty,ps,af,gd⟩) rfl E r B A f X
theorem Il(E:arg x=.ptr k h)(r:Tab P t (.struct vU) b T z)(B:vU[n]? = some vZ)(A:Tab P vZ.type d m c u)(f:Nat.beq m 0=false):Quiet P hp ⟨dd,.fieldAddr t x n,ty,ps,af,gd⟩ arg (.ptr k (h+vZ.offset)):=A0S (o:=⟨dd,.fieldAddr t x n,ty,ps,af,gd⟩) rfl E r B A f
theorem Lt{ds r:List D}(E:arg x=.ptr m c)(s:hp[m]? = some (.var T (ds.map .d)))(M:Tab P t d n b z)(e:Fa d=true)(X:A4w c n ds=some r):Quiet P hp ⟨dd,.load t x,ty,ps,af,gd⟩ arg (.d (AP r)):=A3F (o:=⟨dd,.load t x,ty,ps,af,gd⟩) rfl E s M e X
theorem BU{n b T id off:Nat}{ds:List D}(E:arg x=.ptr id off)(s:hp[id]? = some (.var T (ds.map .d)))(M:Tab P t d n b z)(e:Fa d=false)(X:atO off ds=some r):Quiet P hp ⟨dd,.load t x,ty,ps,af,gd⟩ arg (.d r):=A0R (o:=⟨dd,.load t x,ty,ps,af,gd⟩) rfl E s M e X
theorem JY{n b T id off:Nat}{r:AV}(E:arg x=.ptr id off)(s:hp[id]? = some (.var T i))(M:Tab P t d n b z)(e:Fa d=false)(I:i[off]? = some r):Quiet P hp ⟨dd,.load t x,ty,ps,af,gd⟩ arg r:=NP (o:=⟨dd,.load t x,ty,ps,af,gd⟩) rfl E s M e I
theorem Mf(E:arg x=.d (Fg T v))(M:Tab P t d n b z)(e:Fa d=true)(f:v.length=n):Quiet P hp ⟨dd,.load t x,ty,ps,af,gd⟩ arg (.d (AP v)):=Wt (o:=⟨dd,.load t x,ty,ps,af,gd⟩) rfl E M e f
theorem SI(E:arg x=.d (Fg T v))(M:Tab P t d n b z)(e:Fa d=true)(X:Pw n v=some vn):Quiet P hp ⟨dd,.load t x,ty,ps,af,gd⟩ arg (.d (AP vn)):=A3E (o:=⟨dd,.load t x,ty,ps,af,gd⟩) rfl E M e X
theorem Gm(E:arg x=.d (Fg T v))(M:Tab P t d n b z)(e:Fa d=false)(X:atO 0 v=some r):Quiet P hp ⟨dd,.load t x,ty,ps,af,gd⟩ arg (.d r):=A0Q (o:=⟨dd,.load t x,ty,ps,af,gd⟩) rfl E M e X
theorem Aan{ds:List D}{i:Int}(E:arg x=.d (AP ds))(O:arg y=.d (ex (.int o i)))(M:Tab P t (.array c n) b T z)(A:Tab P n d 1 m u)(e:Fa d=false)(B:0<=i)(K:i<c)(f:i.toNat<ds.length):Quiet P hp ⟨dd,.index t x y,ty,ps,af,gd⟩ arg (.d (DK ds i.toNat)):=Uz (o:=⟨dd,.index t x y,ty,ps,af,gd⟩) rfl E O M A e B K f
theorem A13(E:arg x=.d (FY v))(X:atO n v=some r):Quiet P hp ⟨dd,.extract x n,ty,ps,af,gd⟩ arg (.d r):=Quiet.ext (o:=⟨dd,.extract x n,ty,ps,af,gd⟩) rfl E X
theorem A6l(M:Tab P t (.struct vU) n b z)(a:FieldsT P vU.toList vv)(A:HP z.cells.toList=true)(X:PartsA hp arg ub uu)(B:Hf (λi=>vv[i]?) (VL z.cells.toList) uu=some v):Quiet P hp ⟨dd,.build t ub.toArray,ty,ps,af,gd⟩ arg (.d (AP v)):=Quiet.build (o:=⟨dd,.build t ub.toArray,ty,ps,af,gd⟩) rfl M a A X B
theorem Ze(M:Tab P t (.array n U) b T z)(B:Tab P U d m c u)(A:HP z.cells.toList=true)(X:PartsA hp arg ub uu)(C:Hf (λi=>some (i*m,m)) (VL z.cells.toList) uu=some v):Quiet P hp ⟨dd,.build t ub.toArray,ty,ps,af,gd⟩ arg (.d (AP v)):=SF (o:=⟨dd,.build t ub.toArray,ty,ps,af,gd⟩) rfl M B A X C
theorem Mx{len n b g y:Nat}{parts:List (Nat×Operand)}{r:List (Nat×List D)}(M:Tab P t (.slice U) n b z)(B:Tab P U d g y u)(q:0<len)(f:0<g)(o:u.cells.size=g)(E:len*g<=16777216)(A:HP u.cells.toList=true)(X:PartsA hp arg parts r)(C:Hf (λi=>some (i*g,g)) (List.replicate (len*g) CD) r=some v):Quiet P hp ⟨dd,.buildSlice t len parts.toArray,ty,ps,af,gd⟩ arg (.d (slD U g (FG g len v))):=Quiet.buildSlice (o:=⟨dd,.buildSlice t len parts.toArray,ty,ps,af,gd⟩) rfl M B q f o E A X C
theorem A6g{lo hi:Option Operand}{i j:Int}(E:HW hp (arg x)=some (slD k h vm))(M:Tab P t (.slice n) b T z)(A:Tab P n d m c u)(C:m=h)(l:(∃y,lo=some y/\arg y=.d (ex (.int .i64 i)))\/(lo=none/\i=0))(F:(∃y,hi=some y/\arg y=.d (ex (.int .i64 j)))\/(hi=none/\j=vm.length))(B:0<=i)(q:i<=j)(a:j<=vm.length):Quiet P hp ⟨dd,.slice t x lo hi none,ty,ps,af,gd⟩ arg (.d (slD k h ((vm.take j.toNat).drop i.toNat))):=Quiet.slice (o:=⟨dd,.slice t x lo hi none,ty,ps,af,gd⟩) rfl E M A C l F B q a
theorem A0Z(E:arg x=.d (ex (.int o a)))(O:arg y=.d (ex (.int o j))):Quiet P hp ⟨dd,.call { callee:=.builtin .max,args:=#[x,y],argTypes:=vt },ty,ps,af,gd⟩ arg (.d (ex (.int o (Max.max a j)))):=Quiet.max (o:=⟨dd,.call { callee:=.builtin .max,args:=#[x,y],argTypes:=vt },ty,ps,af,gd⟩) rfl E O
theorem WB(E:arg x=.d (ex (.int o a)))(O:arg y=.d (ex (.int o j))):Quiet P hp ⟨dd,.call { callee:=.builtin .min,args:=#[x,y],argTypes:=vt },ty,ps,af,gd⟩ arg (.d (ex (.int o (Min.min a j)))):=Quiet.min (o:=⟨dd,.call { callee:=.builtin .min,args:=#[x,y],argTypes:=vt },ty,ps,af,gd⟩) rfl E O
theorem A0Y(E:arg x=.d (ex (.int .u8 (n:Nat))))(O:arg y=.d (ex (.int .u8 (b:Nat))))(p:n<256)(F:b<256):Quiet P hp ⟨dd,.binOp .or t x y U,ty,ps,af,gd⟩ arg (.d (ex (.int .u8 ((n ||| b:Nat):Int)))):=A3D (o:=⟨dd,.binOp .or t x y U,ty,ps,af,gd⟩) rfl E O p F
theorem BP{f:Operand}(t:arg f=.d (ex (.func (.func vd) #[] #[])))(I:Abs P vd v r)(p:ArgsLe hp arg vO v):Quiet P hp ⟨dd,.call { callee:=.value f,args:=vO.toArray,argTypes:=vt },ty,ps,af,gd⟩ arg (.d r):=Quiet.call (o:=⟨dd,.call { callee:=.value f,args:=vO.toArray,argTypes:=vt },ty,ps,af,gd⟩) rfl t I p
theorem AG{r:AV}(E:arg x=r):Quiet P hp ⟨dd,.move x,ty,ps,af,gd⟩ arg r:=Quiet.move (.inl rfl) E
theorem Bm{r:AV}(E:arg x=r):Quiet P hp ⟨dd,.assign x,ty,ps,af,gd⟩ arg r:=Quiet.move (.inr rfl) E
end
section
variable {P:Program} {s0:An} {n:Nat} {ops:Array Oper} {Q:Exit->AS->Prop} {rest:List Oper} {fr:List (Nat×AV)} {hp:List Ow} {ty:TypeId} {ps:String} {af:Array Edge}
theorem AaB{m b k B:Nat}(M:Tab P t d m b z)(E:Nat.beq t 335=false)(A:HP z.cells.toList=true)(e:Nat.blt B n=true)(I:exO z.cells.toList=some v)(C:HU hp=some k)(Y:Gf hp (.var t (v.map .d))=some H)(h:AWl P s0 n ops Q rest ⟨(B,.ptr k 0)::fr,H⟩):AWl P s0 n ops Q (⟨some B,.alloc t,ty,ps,af,none⟩::rest) ⟨fr,hp⟩:=AWl.al (o:=⟨some B,.alloc t,ty,ps,af,none⟩) rfl rfl rfl M E A e I C Y h
theorem AaA{k A:Nat}(E:AS.arg ⟨fr,hp⟩ x=.d (AP v))(B:Nat.beq t 335=false)(e:Nat.blt A n=true)(C:HU hp=some k)(Y:Gf hp (.var t (v.map .d))=some H)(h:AWl P s0 n ops Q rest ⟨(A,.ptr k 0)::fr,H⟩):AWl P s0 n ops Q (⟨some A,.box t x,ty,ps,af,none⟩::rest) ⟨fr,hp⟩:=AaF (o:=⟨some A,.box t x,ty,ps,af,none⟩) rfl rfl rfl E B e C Y h
theorem WP{k B:Nat}(E:AS.arg ⟨fr,hp⟩ x=.d (ex z))(A:z.oneCell'=true)(F:Nat.beq t 335=false)(e:Nat.blt B n=true)(C:HU hp=some k)(Y:Gf hp (.var t ([ex z].map .d))=some H)(h:AWl P s0 n ops Q rest ⟨(B,.ptr k 0)::fr,H⟩):AWl P s0 n ops Q (⟨some B,.box t x,ty,ps,af,none⟩::rest) ⟨fr,hp⟩:=A8r (o:=⟨some B,.box t x,ty,ps,af,none⟩) rfl rfl rfl E A F e C Y h
theorem A8l{b id m:Nat}(E:AS.arg ⟨fr,hp⟩ x=.ptr id 0)(O:AS.arg ⟨fr,hp⟩ y=.d (AP v))(s:hp[id]? = some (.var U i))(M:Tab P t d m b z)(A:v.length=m)(J:i.length=m)(Y:GZ hp id (.var U (v.map .d))=some H)(h:AWl P s0 n ops Q rest ⟨fr,H⟩):AWl P s0 n ops Q (⟨none,.store t x y,ty,ps,af,none⟩::rest) ⟨fr,hp⟩:=A8n (o:=⟨none,.store t x y,ty,ps,af,none⟩) rfl rfl rfl E O s M A J Y h
theorem WO{b id m off:Nat}(E:AS.arg ⟨fr,hp⟩ x=.ptr id off)(O:AS.arg ⟨fr,hp⟩ y=.d (AP vn))(s:hp[id]? = some (.var U (v.map .d)))(M:Tab P t d m b z)(A:vn.length=m)(I:UT v off vn=some xb)(Y:GZ hp id (.var U (xb.map .d))=some H)(h:AWl P s0 n ops Q rest ⟨fr,H⟩):AWl P s0 n ops Q (⟨none,.store t x y,ty,ps,af,none⟩::rest) ⟨fr,hp⟩:=A8o (o:=⟨none,.store t x y,ty,ps,af,none⟩) rfl rfl rfl E O s M A I Y h
theorem Dd{b id off:Nat}(E:AS.arg ⟨fr,hp⟩ x=.ptr id off)(O:AS.arg ⟨fr,hp⟩ y=.d r)(s:hp[id]? = some (.var U (v.map .d)))(M:Tab P t d 1 b z)(A:One hp (.d r))(I:UT v off [r]=some vn)(Y:GZ hp id (.var U (vn.map .d))=some H)(h:AWl P s0 n ops Q rest ⟨fr,H⟩):AWl P s0 n ops Q (⟨none,.store t x y,ty,ps,af,none⟩::rest) ⟨fr,hp⟩:=A6H (o:=⟨none,.store t x y,ty,ps,af,none⟩) rfl rfl rfl E O s M A I Y h
theorem EA{t T I k bytes id m b e:Nat}{C r2:List (List D)}(E:AS.arg ⟨fr,hp⟩ x=.own id)(O:HW hp (AS.arg ⟨fr,hp⟩ y)=some (slD I k r2))(s:hp[id]? = some (.row T k C))(M:Tab P t (.slice T) m b u)(F:Tab P T d k bytes z)(J:z.cells.size=k)(A:Nat.blt e n=true)(G:(C.length+r2.length)*bytes<=140737488355328)(U:C.length+r2.length<=4611686018427387904)(B:JS id (slD T k C) fr=some vc)(a:PlainHp id hp)(Y:GZ hp id (.row T k (C++r2))=some H)(h:AWl P s0 n ops Q rest ⟨(e,.own id)::vc,H⟩):AWl P s0 n ops Q (⟨some e,.call { callee:=.builtin .append,args:=#[x,y],argTypes:=#[t,t] },ty,ps,af,none⟩::rest) ⟨fr,hp⟩:=AWl.app (o:=⟨some e,.call { callee:=.builtin .append,args:=#[x,y],argTypes:=#[t,t] },ty,ps,af,none⟩) rfl rfl rfl E O s M F J A G U B a Y h
theorem WQ{t T m b B bytes k e:Nat}(M:Tab P t (.slice T) m b u)(E:Tab P T d B bytes z)(y:Nat.beq T 335=false)(c:Nat.blt 0 B=true)(A:Nat.blt e n=true)(C:HU hp=some k)(Y:Gf hp (.row T B [])=some H)(h:AWl P s0 n ops Q rest ⟨(e,.own k)::fr,H⟩):AWl P s0 n ops Q (⟨some e,.buildSlice t 0 #[],ty,ps,af,none⟩::rest) ⟨fr,hp⟩:=AaG (o:=⟨some e,.buildSlice t 0 #[],ty,ps,af,none⟩) rfl rfl rfl M E y c A C Y h
theorem A8m{t T m b B bytes k e:Nat}(E:AS.arg ⟨fr,hp⟩ x=.d (ex (.int .i64 0)))(O:AS.arg ⟨fr,hp⟩ y=.d (ex (.int .i64 a)))(M:Tab P t (.slice T) m b u)(F:Tab P T d B bytes z)(J:0<=a)(I:a<=1000000000)(G:Nat.ble bytes 65536=true)(K:Nat.beq T 335=false)(c:Nat.blt 0 B=true)(A:Nat.blt e n=true)(C:HU hp=some k)(Y:Gf hp (.row T B [])=some H)(h:AWl P s0 n ops Q rest ⟨(e,.own k)::fr,H⟩):AWl P s0 n ops Q (⟨some e,.makeSlice t x y,ty,ps,af,none⟩::rest) ⟨fr,hp⟩:=A8q (o:=⟨some e,.makeSlice t x y,ty,ps,af,none⟩) rfl rfl rfl E O M F J I G K c A C Y h
theorem De{d:Nat}(Y:BN ui=true)(e:Nat.blt d n=true)(h:∃r,Quiet P hp ⟨some d,ui,ty,ps,af,none⟩ (AS.arg ⟨fr,hp⟩) r/\AWl P s0 n ops Q rest ⟨(d,r)::fr,hp⟩):AWl P s0 n ops Q (⟨some d,ui,ty,ps,af,none⟩::rest) ⟨fr,hp⟩:=AaE rfl rfl Y e h
theorem Pt{d:Nat}(O:(ops[b]?).bind (·.dst)=some T)(J:Ch fr T=some (.d (ex (.bool p))))(B:Nat.blt T n=true)(Y:BN ui=true)(e:Nat.blt d n=true)(h:∃r,Quiet P hp ⟨some d,ui,ty,ps,af,some (b,p)⟩ (AS.arg ⟨fr,hp⟩) r/\AWl P s0 n ops Q rest ⟨(d,r)::fr,hp⟩):AWl P s0 n ops Q (⟨some d,ui,ty,ps,af,some (b,p)⟩::rest) ⟨fr,hp⟩:=A8p rfl O J B rfl Y e h
theorem ST{d:Nat}(O:(ops[b]?).bind (·.dst)=some T)(J:Ch fr T=some (.d (ex z)))(C:isB z p=false)(B:Nat.blt T n=true)(e:Nat.blt d n=true)(h:AWl P s0 n ops Q rest ⟨(d,.d (ex undef))::fr,hp⟩):AWl P s0 n ops Q (⟨some d,ui,ty,ps,af,some (b,p)⟩::rest) ⟨fr,hp⟩:=AaC rfl O J C B rfl e h
end
def plO:List Field->Option (List (Nat×Nat))
 |[]=>some []
 |f::l=>match TD A1z f.type with
  |some p=>match plO l with
   |some r=>some ((f.offset,p.n)::r)
   |none=>none
  |none=>none
theorem A50:∀{l:List Field} {r:List (Nat×Nat)},plO l=some r->FieldsT prog l r
 |[],r,h=>by cases h;exact FieldsT.nil
 |f::l,r,h=>by
  unfold plO at h
  cases M:TD A1z f.type with
  |none=>rw[M]at h;cases h
  |some p=>
   rw[M]at h;simp only at h
   cases X:plO l with
   |none=>rw[X]at h;cases h
   |some n=>
    rw[X]at h;cases h;obtain⟨A,B⟩:=QU A1B M;rw[A]at B;exact FieldsT.cons B (A50 X)
def PartOk(G:List Ow)(I:AV)(m:List D):Prop:=I=.d (AP m)\/∃y,HW G I=some y/\One G I/\m=[y]
theorem Aw(h:g=.d (AP v)):PartOk H g v:=.inl h
theorem PartOk.one(h:HW H g=some r)(A:One H g):PartOk H g [r]:=.inr ⟨r,h,A,rfl⟩
def A1F:List (Nat×List D)->Nat×List D->Option (List (Nat×List D))
 |[],x=>some [x]
 |o::l,x=>match A1F l x with
  |some r=>some (o::r)
  |none=>none
theorem Xe:∀{l:List (Nat×List D)} {x:Nat×List D} {r:List (Nat×List D)},A1F l x=some r->r=l++[x]
 |[],x,r,h=>by cases h;rfl
 |o::l,x,r,h=>by
  unfold A1F at h;split at h
  .rename_i n b
   cases h;rw[Xe b];rfl
  .cases h
def PC(G:List Ow)(arg:Operand->AV)(K:List (Nat×List D)->Prop):List (Nat×List D)->List (Nat×Operand)->Prop
 |u,[]=>K u
 |u,(i,x)::l=>∃m,PartOk G (arg x) m/\∃t,A1F u (i,m)=some t/\PC G arg K t l
theorem Lw{G:List Ow}{arg:Operand->AV}{K:List (Nat×List D)->Prop}:∀{l:List (Nat×Operand)} {u:List (Nat×List D)},PC G arg K u l->∃r,PartsA G arg l r/\K (u++r)
 |[],u,h=>⟨[],PartsA.nil,by rw[YbD];exact h⟩
 |(i,x)::l,u,⟨m,A,t,B,L⟩=>by
  have e:=Xe B;subst e;obtain⟨r,S,n⟩:=Lw L;rw[Yaf,List.singleton_append]at n;exact⟨(i,m)::r,⟨rfl,A,S⟩,n⟩
def Sd(place:Nat->Option (Nat×Nat)):List D->List (Nat×List D)->Option (List D)
 |R,[]=>some R
 |R,(i,m)::r=>match place i with
  |some (off,size)=>bif Nat.beq m.length size then match UT R off m with
   |some L=>Sd place L r
   |none=>none else none
  |none=>none
theorem Lc{place:Nat->Option (Nat×Nat)}:∀{r:List (Nat×List D)} {R x:List D},Sd place R r=some x->Hf place R r=some x
 |[],R,x,h=>h
 |(i,m)::r,R,x,h=>by
  unfold Sd at h;unfold Hf
  cases G:place i with
  |none=>rw[G]at h;cases h
  |some q=>
   obtain⟨off,size⟩:=q;rw[G]at h;simp only at h ⊢
   cases F:Nat.beq m.length size with
   |false=>exact ZiY
   |true=>
    rw[F]at h;simp only[cond_true]at h
    cases Y:UT R off m with
    |none=>rw[Y]at h;cases h
    |some L=>
     rw[Y]at h;obtain⟨Z,s⟩:=Qn Y;have H:=Yao F;have K:Nat.ble (off+size) R.length=true:=YcZ ZbD;rw[K,<-Z];exact Lc h
section
variable {P:Program} {hp:List Ow} {arg:Operand->AV} {dd:Option Tmp} {ty:TypeId} {ps:String} {af:Array Edge} {gd:Option (Nat×Bool)}
theorem AI(M:Tab prog t (.struct vU) n b z)(a:plO vU.toList=some vv)(A:HP z.cells.toList=true)(o:exO z.cells.toList=some v)(h:PC hp arg (λr=>∃R,Sd (λi=>vv[i]?) v r=some R/\xc (.d (AP R))) [] ub):∃r,Quiet prog hp ⟨dd,.build t ub.toArray,ty,ps,af,gd⟩ arg r/\xc r:=by
 obtain⟨r,B,R,L,S⟩:=Lw h;rw[Sj o]at L;exact⟨_,A6l M (A50 a) A B (Lc L),S⟩
theorem Ly{len n b g y:Nat}(M:Tab P t (.array len U) n b z)(C:Tab P U d g y u)(A:HP z.cells.toList=true)(o:exO z.cells.toList=some v)(h:PC hp arg (λr=>∃R,Sd (λi=>some (i*g,g)) v r=some R/\xc (.d (AP R))) [] ub):∃r,Quiet P hp ⟨dd,.build t ub.toArray,ty,ps,af,gd⟩ arg r/\xc r:=by
 obtain⟨r,B,R,L,S⟩:=Lw h;rw[Sj o]at L;exact⟨_,Ze M C A B (Lc L),S⟩
theorem DF{len n b g y:Nat}(M:Tab P t (.slice U) n b z)(C:Tab P U d g y u)(q:Nat.blt 0 len=true)(f:Nat.blt 0 g=true)(o:u.cells.size=g)(E:Nat.ble (len*g) 16777216=true)(A:HP u.cells.toList=true)(h:PC hp arg (λr=>∃R,Sd (λi=>some (i*g,g)) (List.replicate (len*g) CD) r=some R/\xc (.d (slD U g (FG g len R)))) [] ub):∃r,Quiet P hp ⟨dd,.buildSlice t len ub.toArray,ty,ps,af,gd⟩ arg r/\xc r:=by
 obtain⟨r,B,R,L,S⟩:=Lw h;exact⟨_,Mx M C (by simpa[Ybm]using q) ZeG o (YbA E) A B (Lc L),S⟩
theorem Cb(E:arg x=.d (AP v))(M:Tab P t (.slice U) n b z)(B:Tab P U d T m u)(J:v.length=T)(f:Nat.blt 0 T=true)(o:u.cells.size=T)(y:Nat.ble T 16777216=true)(A:HP u.cells.toList=true):Quiet P hp ⟨dd,.buildSlice t 1 #[(0,x)],ty,ps,af,gd⟩ arg (.d (slD U T [v])):=by
 have F:(Nat.beq v.length T&&Nat.ble (0*T+T) (List.replicate (1*T) CD).length)=true:=by
  simp[J]
 have C:Hf (λi=>some (i*T,T)) (List.replicate (1*T) CD) [(0,v)]=some v:=by
  simp only[Hf];rw[F];simp only[cond_true,TI,Ydc];rw[YcC,YbX,YcH,YaL (by simp[J]),YbD]
 have h:=Mx (P:=P) (hp:=hp) (dd:=dd) (ty:=ty) (ps:=ps) (af:=af) (gd:=gd) (len:=1) (parts:=[(0,x)]) (r:=[(0,v)]) M B ZbD ZeG o (by have:=YbA y;omega) A (A3I E PartsA.nil) C
 have Z:FG T 1 v=[v]:=by
  simp only[FG];rw[<-J,YaV]
 rwa [Z]at h
theorem Hq{R:HR->Prop}(C:va.guard=none)(h:∃r,Quiet P ve.hp va (DZ ve ur vv) r/\R (.av r)):∃r,HStep P ve ur vv va r/\R r:=by
 obtain⟨r,A,B⟩:=h;exact⟨_,HStep.q C A,B⟩
end
section
variable {P:Program} {s0:An} {m:Nat} {ops:Array Oper} {Q:Exit->AS->Prop} {rest:List Oper} {σ:AS} {hp:List Ow} {arg:Operand->AV} {dd:Option Tmp} {ty:TypeId} {ps:String} {af:Array Edge} {gd:Option (Nat×Bool)} {R:AV->Prop} {H:HR->Prop} {acc:List HR} {e:List (Nat×Nat)}
theorem Gp(h:∃r,Quiet P hp ⟨dd,.move x,ty,ps,af,gd⟩ arg r/\R r):∃r,Quiet P hp ⟨dd,.move x,ty,ps,af,gd⟩ arg r/\R r:=h
theorem WJ(h:∃r,HStep P σ acc e ⟨dd,.move x,ty,ps,af,gd⟩ r/\H r):∃r,HStep P σ acc e ⟨dd,.move x,ty,ps,af,gd⟩ r/\H r:=h
theorem GF(h:∃r,Quiet P hp ⟨dd,.assign x,ty,ps,af,gd⟩ arg r/\R r):∃r,Quiet P hp ⟨dd,.assign x,ty,ps,af,gd⟩ arg r/\R r:=h
theorem UD(h:∃r,HStep P σ acc e ⟨dd,.assign x,ty,ps,af,gd⟩ r/\H r):∃r,HStep P σ acc e ⟨dd,.assign x,ty,ps,af,gd⟩ r/\H r:=h
theorem QL(h:∃r,Quiet P hp ⟨dd,.load t x,ty,ps,af,gd⟩ arg r/\R r):∃r,Quiet P hp ⟨dd,.load t x,ty,ps,af,gd⟩ arg r/\R r:=h
theorem WK(h:∃r,HStep P σ acc e ⟨dd,.load t x,ty,ps,af,gd⟩ r/\H r):∃r,HStep P σ acc e ⟨dd,.load t x,ty,ps,af,gd⟩ r/\H r:=h
theorem In(h:∃r,Quiet P hp ⟨dd,.fieldAddr n x b,ty,ps,af,gd⟩ arg r/\R r):∃r,Quiet P hp ⟨dd,.fieldAddr n x b,ty,ps,af,gd⟩ arg r/\R r:=h
theorem Kw(h:∃r,HStep P σ acc e ⟨dd,.fieldAddr n x b,ty,ps,af,gd⟩ r/\H r):∃r,HStep P σ acc e ⟨dd,.fieldAddr n x b,ty,ps,af,gd⟩ r/\H r:=h
theorem Of(h:∃r,Quiet P hp ⟨dd,.indexAddr t x y,ty,ps,af,gd⟩ arg r/\R r):∃r,Quiet P hp ⟨dd,.indexAddr t x y,ty,ps,af,gd⟩ arg r/\R r:=h
theorem Kv(h:∃r,HStep P σ acc e ⟨dd,.indexAddr t x y,ty,ps,af,gd⟩ r/\H r):∃r,HStep P σ acc e ⟨dd,.indexAddr t x y,ty,ps,af,gd⟩ r/\H r:=h
theorem A6t{F K d:Option Operand}(h:∃r,Quiet P hp ⟨dd,.slice t x F K d,ty,ps,af,gd⟩ arg r/\R r):∃r,Quiet P hp ⟨dd,.slice t x F K d,ty,ps,af,gd⟩ arg r/\R r:=h
theorem A1c(h:∃r,Quiet P hp ⟨dd,.call { callee:=.builtin .len,args:=uI,argTypes:=vt },ty,ps,af,gd⟩ arg r/\R r):∃r,Quiet P hp ⟨dd,.call { callee:=.builtin .len,args:=uI,argTypes:=vt },ty,ps,af,gd⟩ arg r/\R r:=h
theorem A6w(h:∃r,HStep P σ acc e ⟨dd,.call { callee:=.builtin .len,args:=uI,argTypes:=vt },ty,ps,af,gd⟩ r/\H r):∃r,HStep P σ acc e ⟨dd,.call { callee:=.builtin .len,args:=uI,argTypes:=vt },ty,ps,af,gd⟩ r/\H r:=h
theorem Aat(h:∃r,Quiet P hp ⟨dd,.call { callee:=.builtin .max,args:=uI,argTypes:=vt },ty,ps,af,gd⟩ arg r/\R r):∃r,Quiet P hp ⟨dd,.call { callee:=.builtin .max,args:=uI,argTypes:=vt },ty,ps,af,gd⟩ arg r/\R r:=h
theorem Zl(h:∃r,Quiet P hp ⟨dd,.call { callee:=.value x,args:=uI,argTypes:=vt },ty,ps,af,gd⟩ arg r/\R r):∃r,Quiet P hp ⟨dd,.call { callee:=.value x,args:=uI,argTypes:=vt },ty,ps,af,gd⟩ arg r/\R r:=h
theorem SL(h:∃r,HStep P σ acc e ⟨dd,.call { callee:=.value x,args:=uI,argTypes:=vt },ty,ps,af,gd⟩ r/\H r):∃r,HStep P σ acc e ⟨dd,.call { callee:=.value x,args:=uI,argTypes:=vt },ty,ps,af,gd⟩ r/\H r:=h
theorem A1d(h:∃r,Quiet P hp ⟨dd,.binOp .add t x y U,ty,ps,af,gd⟩ arg r/\R r):∃r,Quiet P hp ⟨dd,.binOp .add t x y U,ty,ps,af,gd⟩ arg r/\R r:=h
theorem A6A(h:∃r,HStep P σ acc e ⟨dd,.binOp .add t x y U,ty,ps,af,gd⟩ r/\H r):∃r,HStep P σ acc e ⟨dd,.binOp .add t x y U,ty,ps,af,gd⟩ r/\H r:=h
theorem A6s(h:∃r,Quiet P hp ⟨dd,.binOp .sub t x y U,ty,ps,af,gd⟩ arg r/\R r):∃r,Quiet P hp ⟨dd,.binOp .sub t x y U,ty,ps,af,gd⟩ arg r/\R r:=h
theorem A6v(h:∃r,HStep P σ acc e ⟨dd,.binOp .sub t x y U,ty,ps,af,gd⟩ r/\H r):∃r,HStep P σ acc e ⟨dd,.binOp .sub t x y U,ty,ps,af,gd⟩ r/\H r:=h
theorem Aas(h:∃r,Quiet P hp ⟨dd,.binOp .quo t x y U,ty,ps,af,gd⟩ arg r/\R r):∃r,Quiet P hp ⟨dd,.binOp .quo t x y U,ty,ps,af,gd⟩ arg r/\R r:=h
theorem A6u(h:∃r,Quiet P hp ⟨dd,.binOp .rem t x y U,ty,ps,af,gd⟩ arg r/\R r):∃r,Quiet P hp ⟨dd,.binOp .rem t x y U,ty,ps,af,gd⟩ arg r/\R r:=h
theorem A1f(h:∃r,HStep P σ acc e ⟨dd,.binOp .rem t x y U,ty,ps,af,gd⟩ r/\H r):∃r,HStep P σ acc e ⟨dd,.binOp .rem t x y U,ty,ps,af,gd⟩ r/\H r:=h
theorem AbK(h:∃r,Quiet P hp ⟨dd,.binOp .or t x y U,ty,ps,af,gd⟩ arg r/\R r):∃r,Quiet P hp ⟨dd,.binOp .or t x y U,ty,ps,af,gd⟩ arg r/\R r:=h
theorem IN(h:∃r,Quiet P hp ⟨dd,.binOp vW t x y U,ty,ps,af,gd⟩ arg r/\R r):∃r,Quiet P hp ⟨dd,.binOp vW t x y U,ty,ps,af,gd⟩ arg r/\R r:=h
theorem A6y(h:∃r,HStep P σ acc e ⟨dd,.binOp vW t x y U,ty,ps,af,gd⟩ r/\H r):∃r,HStep P σ acc e ⟨dd,.binOp vW t x y U,ty,ps,af,gd⟩ r/\H r:=h
theorem AbJ{O:UnOp}(h:∃r,Quiet P hp ⟨dd,.unOp O t x,ty,ps,af,gd⟩ arg r/\R r):∃r,Quiet P hp ⟨dd,.unOp O t x,ty,ps,af,gd⟩ arg r/\R r:=h
theorem A8T{O:UnOp}(h:∃r,HStep P σ acc e ⟨dd,.unOp O t x,ty,ps,af,gd⟩ r/\H r):∃r,HStep P σ acc e ⟨dd,.unOp O t x,ty,ps,af,gd⟩ r/\H r:=h
theorem Aau(h:∃r,Quiet P hp ⟨dd,.extract x n,ty,ps,af,gd⟩ arg r/\R r):∃r,Quiet P hp ⟨dd,.extract x n,ty,ps,af,gd⟩ arg r/\R r:=h
theorem A6x(h:∃r,HStep P σ acc e ⟨dd,.extract x n,ty,ps,af,gd⟩ r/\H r):∃r,HStep P σ acc e ⟨dd,.extract x n,ty,ps,af,gd⟩ r/\H r:=h
theorem Oe(h:∃r,Quiet P hp ⟨dd,.pick x y vS,ty,ps,af,gd⟩ arg r/\R r):∃r,Quiet P hp ⟨dd,.pick x y vS,ty,ps,af,gd⟩ arg r/\R r:=h
theorem A2n(h:∃r,HStep P σ acc e ⟨dd,.pick x y vS,ty,ps,af,gd⟩ r/\H r):∃r,HStep P σ acc e ⟨dd,.pick x y vS,ty,ps,af,gd⟩ r/\H r:=h
theorem Zm(h:∃r,Quiet P hp ⟨dd,.build t xd,ty,ps,af,gd⟩ arg r/\R r):∃r,Quiet P hp ⟨dd,.build t xd,ty,ps,af,gd⟩ arg r/\R r:=h
theorem SM(h:∃r,HStep P σ acc e ⟨dd,.build t xd,ty,ps,af,gd⟩ r/\H r):∃r,HStep P σ acc e ⟨dd,.build t xd,ty,ps,af,gd⟩ r/\H r:=h
theorem A3N(h:∃r,Quiet P hp ⟨dd,.buildSlice n b xd,ty,ps,af,gd⟩ arg r/\R r):∃r,Quiet P hp ⟨dd,.buildSlice n b xd,ty,ps,af,gd⟩ arg r/\R r:=h
theorem Ps(h:∃r,HStep P σ acc e ⟨dd,.buildSlice n b xd,ty,ps,af,gd⟩ r/\H r):∃r,HStep P σ acc e ⟨dd,.buildSlice n b xd,ty,ps,af,gd⟩ r/\H r:=h
theorem A8h(h:∃r,Quiet P hp ⟨dd,.convert t U x,ty,ps,af,gd⟩ arg r/\R r):∃r,Quiet P hp ⟨dd,.convert t U x,ty,ps,af,gd⟩ arg r/\R r:=h
theorem WL(h:∃r,HStep P σ acc e ⟨dd,.convert t U x,ty,ps,af,gd⟩ r/\H r):∃r,HStep P σ acc e ⟨dd,.convert t U x,ty,ps,af,gd⟩ r/\H r:=h
theorem A6z(h:∃r,HStep P σ acc e ⟨dd,.alloc t,ty,ps,af,gd⟩ r/\H r):∃r,HStep P σ acc e ⟨dd,.alloc t,ty,ps,af,gd⟩ r/\H r:=h
theorem Zn(h:AWl P s0 m ops Q (⟨dd,.alloc t,ty,ps,af,gd⟩::rest) σ):AWl P s0 m ops Q (⟨dd,.alloc t,ty,ps,af,gd⟩::rest) σ:=h
theorem SN(h:AWl P s0 m ops Q (⟨dd,.store t x y,ty,ps,af,gd⟩::rest) σ):AWl P s0 m ops Q (⟨dd,.store t x y,ty,ps,af,gd⟩::rest) σ:=h
theorem A6C(h:AWl P s0 m ops Q (⟨dd,.box t x,ty,ps,af,gd⟩::rest) σ):AWl P s0 m ops Q (⟨dd,.box t x,ty,ps,af,gd⟩::rest) σ:=h
theorem Aaw(h:AWl P s0 m ops Q (⟨dd,.call { callee:=.builtin .append,args:=uI,argTypes:=vt },ty,ps,af,gd⟩::rest) σ):AWl P s0 m ops Q (⟨dd,.call { callee:=.builtin .append,args:=uI,argTypes:=vt },ty,ps,af,gd⟩::rest) σ:=h
theorem AbL(h:AWl P s0 m ops Q (⟨dd,.makeSlice t x y,ty,ps,af,gd⟩::rest) σ):AWl P s0 m ops Q (⟨dd,.makeSlice t x y,ty,ps,af,gd⟩::rest) σ:=h
theorem A8U(h:AWl P s0 m ops Q (⟨dd,.buildSlice t 0 #[],ty,ps,af,gd⟩::rest) σ):AWl P s0 m ops Q (⟨dd,.buildSlice t 0 #[],ty,ps,af,gd⟩::rest) σ:=h
theorem Kx{A y:Code}(h:AWp P s0 m (.cond x A y) Q σ):AWp P s0 m (.cond x A y) Q σ:=h
end
structure CellAt(ds:List D)(off:Nat)(u:D):Prop where
 lt:off<ds.length
 eq:DK ds off=u
structure PartAt(ds:List D)(off n:Nat)(es:List D):Prop where
 le:off+n<=ds.length
 eq:(ds.drop off).take n=es
structure SetAt(ds:List D)(off:Nat)(es ds':List D):Prop where
 le:off+es.length<=ds.length
 eq:TI ds off es=ds'
theorem CellAt.mon{a:Nat->Int}(h:n<8):CellAt (CM a) n (ex (.int .i64 (a n))):=⟨h,Nv h⟩
theorem Jm(h:n<8):CellAt (CM vh) (0+n*1) (ex (.int .i64 (vh n))):=by rw[YaH,YbB];exact .mon h
theorem HN{k:Nat}(h:k<8):CellAt ((CM vh).drop (k*1)) 0 (ex (.int .i64 (vh k))):=by
 rw[YbB];refine⟨by rw[YbQ,XJ];omega,?_⟩;rw[II];exact Nv h
theorem A2Y(h:n<8):TI (CM vh) n [ex (.int .i64 a)]=CM (Rm vh n a):=by
 match n,h with
 |0,_=>rfl
 |1,_=>rfl
 |2,_=>rfl
 |3,_=>rfl
 |4,_=>rfl
 |5,_=>rfl
 |6,_=>rfl
 |7,_=>rfl
theorem SetAt.mon{a:Nat->Int}{z:Int}(h:n<8):SetAt (CM a) (0+n*1) [ex (.int .i64 z)] (CM (Rm a n z)):=by
 rw[YaH,YbB];exact⟨h,A2Y h⟩
def A9d:List (List D)->Nat->Option (List D)
 |[],_=>none
 |r::_,0=>some r
 |_::l,i+1=>A9d l i
theorem A1I:∀{l:List (List D)} {i:Nat} {r:List D},A9d l i=some r->r=l.getD i []/\i<l.length
 |[],_,_,h=>by cases h
 |x::l,0,r,h=>by cases h;exact⟨rfl,by simp⟩
 |x::l,i+1,r,h=>by
  obtain⟨A,B⟩:=A1I (l:=l) (i:=i) h;exact⟨by simpa using A,by simp;omega⟩
section
variable {P:Program} {hp:List Ow} {arg:Operand->AV} {dd:Option Tmp} {ty:TypeId} {ps:String} {af:Array Edge} {gd:Option (Nat×Bool)}
theorem MT{e n b g B len id off k:Nat}(E:arg x=.ptr id off)(O:arg y=.d (ex (.int o ((k:Nat):Int))))(M:Tab P t (.array len e) n b z)(A:Tab P e d g B u)(C:k<len):Quiet P hp ⟨dd,.indexAddr t x y,ty,ps,af,gd⟩ arg (.ptr id (off+k*g)):=
 NS (o:=⟨dd,.indexAddr t x y,ty,ps,af,gd⟩) rfl E O M A ZbD ZbD
theorem Lu{e n b g B len T k:Nat}(E:arg x=.d (Fg T v))(O:arg y=.d (ex (.int o ((k:Nat):Int))))(M:Tab P t (.array len e) n b z)(A:Tab P e d g B u)(C:k<len):Quiet P hp ⟨dd,.indexAddr t x y,ty,ps,af,gd⟩ arg (.d (Fg T (v.drop (k*g)))):=
 NT (o:=⟨dd,.indexAddr t x y,ty,ps,af,gd⟩) rfl E O M A ZbD ZbD
theorem Hn{e n b g F T k:Nat}{r:List D}(E:HW hp (arg x)=some (slD T k vm))(O:arg y=.d (ex (.int o a)))(M:Tab P t (.slice e) n b z)(C:Tab P e d g F u)(G:g=k)(X:A9d vm a.toNat=some r)(c:0<=a):Quiet P hp ⟨dd,.indexAddr t x y,ty,ps,af,gd⟩ arg (.d (Fg T r)):=by
 obtain⟨A,B⟩:=A1I X;rw[A];exact Quiet.index (o:=⟨dd,.indexAddr t x y,ty,ps,af,gd⟩) rfl E O M C G c ZbD
theorem Jj(E:arg x=.d (ex (.int .i64 ((n:Nat):Int))))(O:arg y=.d (ex (.int .i64 1)))(c:0<n)(A:(n:Int)<9223372036854775807):Quiet P hp ⟨dd,.binOp .sub t x y U,ty,ps,af,gd⟩ arg (.d (ex (.int .i64 ((n-1:Nat):Int)))):=by
 have:=Quiet.sub (P:=P) (hp:=hp) (o:=⟨dd,.binOp .sub t x y U,ty,ps,af,gd⟩) rfl E O ZbD ZbD;rwa [show(n:Int)-1=((n-1:Nat):Int)by omega]at this
theorem Mg(E:arg x=.ptr m c)(s:hp[m]? = some (.var T (v.map .d)))(M:Tab P t d n b z)(e:Fa d=false)(I:CellAt v c r):Quiet P hp ⟨dd,.load t x,ty,ps,af,gd⟩ arg (.d r):=by
 have:=NR (P:=P) (o:=⟨dd,.load t x,ty,ps,af,gd⟩) rfl E s M e I.lt;rwa [I.eq]at this
theorem HL(E:arg x=.d (Fg T v))(M:Tab P t d n b z)(e:Fa d=false)(I:CellAt v 0 r):Quiet P hp ⟨dd,.load t x,ty,ps,af,gd⟩ arg (.d r):=by
 have:=NQ (P:=P) (hp:=hp) (o:=⟨dd,.load t x,ty,ps,af,gd⟩) rfl E M e I.lt;rwa [I.eq]at this
theorem WD(E:arg x=.d (Fg T v))(M:Tab P t d n b z)(e:Fa d=true)(I:PartAt v 0 n vn):Quiet P hp ⟨dd,.load t x,ty,ps,af,gd⟩ arg (.d (AP vn)):=by
 have:=Lq (P:=P) (hp:=hp) (o:=⟨dd,.load t x,ty,ps,af,gd⟩) rfl E M e (by have:=I.le;omega);rwa [<-I.eq,YaU]
theorem Gn(E:arg x=.d (AP v))(O:arg y=.d (ex (.int o ((k:Nat):Int))))(M:Tab P t (.array c n) b T z)(A:Tab P n d 1 m u)(e:Fa d=false)(C:k<c)(I:CellAt v k r):Quiet P hp ⟨dd,.index t x y,ty,ps,af,gd⟩ arg (.d r):=by
 have:=Uz (P:=P) (hp:=hp) (o:=⟨dd,.index t x y,ty,ps,af,gd⟩) rfl E O M A e ZbD ZbD (by have:=I.lt;omega);exact ZiB
theorem Ho{e n b g F len k:Nat}(E:arg x=.d (AP v))(O:arg y=.d (ex (.int o ((k:Nat):Int))))(M:Tab P t (.array len e) n b z)(A:Tab P e d g F u)(B:Fa d=true)(C:k<len)(I:PartAt v (k*g) g vn):Quiet P hp ⟨dd,.index t x y,ty,ps,af,gd⟩ arg (.d (AP vn)):=by
 have:=A3G (P:=P) (hp:=hp) (o:=⟨dd,.index t x y,ty,ps,af,gd⟩) rfl E O M A B ZbD ZbD I.le;exact ZiB
theorem A34 (a b : Nat → Int) (w : World) : (do eqGuard .eql 112 x y (.agg (c8 a)) (.agg (c8 b)); binOp .eql 112 (.agg (c8 a)) (.agg (c8 b)) : Sem Value).run prog w = .ok (.bool (Om a b)) w := by
 exact ZgH
theorem A2T (a b : Nat → Int) (w : World) : (do eqGuard .neq 112 x y (.agg (c8 a)) (.agg (c8 b)); binOp .neq 112 (.agg (c8 a)) (.agg (c8 b)) : Sem Value).run prog w = .ok (.bool (!Om a b)) w := by
 exact ZgH
theorem IL {a b v : Value} (I : va.op = .binOp vW t x y U) (E : arg x = .d r) (O : arg y = .d vw) (p : ∀ s u, r.rel s u → u = a) (F : ∀ s u, vw.rel s u → u = b) (X : ∀ w, (do eqGuard vW t x y a b; binOp vW t a b : Sem Value).run P w = .ok v w) : Quiet P hp va arg (.d (ex v)) := by
 refine⟨λbase s W i G J d h=>?_⟩;have A:=h x Zeb;have B:=h y Zeb;rw[E]at A;rw[O]at B;have Z:=p s _ A;have C:=F s _ B;have:=X s.w;refine Cc (v:=v) ?_ ⟨GS.Le.refl s,rfl⟩;simp only[execOp,I,Z,C,Sem.run_bind,this,Result.andThen_ok,Sem.run_pure]
theorem Lv(E:arg x=.d (AP (CM vh)))(O:arg y=.d (AP (CM vD))):Quiet prog hp ⟨dd,.binOp .eql 112 x y t,ty,ps,af,gd⟩ arg (.d (ex (.bool (Om vh vD)))):=
 IL rfl E O (λ_ _ h=>Dp h) (λ_ _ h=>Dp h) λw=>A34 vh vD w
theorem Lr{U:TypeId}(E:arg x=.d (AP (CM vh)))(O:arg y=.d (AP (CM vD))):Quiet prog hp ⟨dd,.binOp .neq 112 x y U,ty,ps,af,gd⟩ arg (.d (ex (.bool (!Om vh vD)))):=
 IL rfl E O (λ_ _ h=>Dp h) (λ_ _ h=>Dp h) λw=>A2T vh vD w
theorem Pj(E:arg x=.d (AP (CM vh)))(O:arg y=.d (AP (CM vD)))(h:Om vh vD=true):Quiet prog hp ⟨dd,.binOp .eql 112 x y t,ty,ps,af,gd⟩ arg (.d (ex (.bool true))):=by
 rw[<-h];exact Lv E O
theorem Pk(E:arg x=.d (AP (CM vh)))(O:arg y=.d (AP (CM vD)))(h:Om vh vD=false):Quiet prog hp ⟨dd,.binOp .eql 112 x y t,ty,ps,af,gd⟩ arg (.d (ex (.bool false))):=by
 rw[<-h];exact Lv E O
theorem Pi{U:TypeId}(E:arg x=.d (AP (CM vh)))(O:arg y=.d (AP (CM vD)))(h:Om vh vD=true):Quiet prog hp ⟨dd,.binOp .neq 112 x y U,ty,ps,af,gd⟩ arg (.d (ex (.bool false))):=by
 exact Zht
theorem Ph{U:TypeId}(E:arg x=.d (AP (CM vh)))(O:arg y=.d (AP (CM vD)))(h:Om vh vD=false):Quiet prog hp ⟨dd,.binOp .neq 112 x y U,ty,ps,af,gd⟩ arg (.d (ex (.bool true))):=by
 exact Zht
theorem Pm(E:arg x=.d (ex (.bool p)))(O:arg y=.d (ex (.bool un)))(k:P.underlying t=some .bool):Quiet P hp ⟨dd,.binOp .eql t x y U,ty,ps,af,gd⟩ arg (.d (ex (.bool (p==un)))):=
 CN (o:=⟨dd,.binOp .eql t x y U,ty,ps,af,gd⟩) rfl E O λw=>by
  exact ZgE
theorem Me(E:arg x=.d (ex (.bool p)))(O:arg y=.d (ex (.bool un)))(k:P.underlying t=some .bool):Quiet P hp ⟨dd,.binOp .neq t x y U,ty,ps,af,gd⟩ arg (.d (ex (.bool (!(p==un))))):=
 CN (o:=⟨dd,.binOp .neq t x y U,ty,ps,af,gd⟩) rfl E O λw=>by
  exact ZgE
end
section
variable {P:Program} {s0:An} {n:Nat} {ops:Array Oper} {Q:Exit->AS->Prop} {rest:List Oper} {fr:List (Nat×AV)} {hp:List Ow} {ty:TypeId} {ps:String} {af:Array Edge}
theorem Mj{b id m off:Nat}(E:AS.arg ⟨fr,hp⟩ x=.ptr id off)(O:AS.arg ⟨fr,hp⟩ y=.d (AP vn))(s:hp[id]? = some (.var U (v.map .d)))(M:Tab P t d m b z)(A:vn.length=m)(I:SetAt v off vn xb)(Y:GZ hp id (.var U (xb.map .d))=some H)
  (h:AWl P s0 n ops Q rest ⟨fr,H⟩):AWl P s0 n ops Q (⟨none,.store t x y,ty,ps,af,none⟩::rest) ⟨fr,hp⟩:=by
 refine SU (o:=⟨none,.store t x y,ty,ps,af,none⟩) rfl rfl rfl E O s M A (by rw[<-A];exact YcZ I.le) ?_;rw[Fo Y,<-I.eq]at h;exact h
theorem LA{b id off:Nat}(E:AS.arg ⟨fr,hp⟩ x=.ptr id off)(O:AS.arg ⟨fr,hp⟩ y=.d r)(s:hp[id]? = some (.var U (v.map .d)))(M:Tab P t d 1 b z)(A:One hp (.d r))(I:SetAt v off [r] vn)(Y:GZ hp id (.var U (vn.map .d))=some H)
  (h:AWl P s0 n ops Q rest ⟨fr,H⟩):AWl P s0 n ops Q (⟨none,.store t x y,ty,ps,af,none⟩::rest) ⟨fr,hp⟩:=by
 have B:off<v.length:=I.le;refine PX (o:=⟨none,.store t x y,ty,ps,af,none⟩) rfl rfl rfl E O s M A B ?_;have Z:=I.eq
 have:TI v off [r]=v.set off r:=by
  unfold TI;exact ZiV
 rw[this]at Z;rw[Fo Y,<-Z]at h;exact h
end
theorem TM:∀{G z:List Ow} {i:Nat} {x:Ow},G[i]? = some x->GZ G i x=some z->z=G
 |[],_,_,_,h,_=>by cases h
 |o::l,z,0,x,h,b=>by cases h;cases b;rfl
 |o::l,z,i+1,x,h,b=>by
  unfold GZ at b;split at b
  .rename_i r X
   cases b;rw[TM Zdi X]
  .cases b
theorem A6I{s0:An}(id:Nat)(J:List D)(s:H[id]? = some (.var t (v.map .d)))(b:v=J)(Y:GZ H id (.var t (J.map .d))=some vz)(h:AWl P s0 n vY vk vf ⟨vc,vz⟩):AWl P s0 n vY vk vf ⟨vc,H⟩:=by
 subst b;rw[TM s Y]at h;exact h
theorem Cn(h:D.le r uq)(b:D.le vw xa):D.le (FY [r,vw]) (FY [uq,xa]):=λs v E=>by
 obtain⟨K,e,J,C⟩:=E;refine⟨K,e,J,λk S=>?_⟩;obtain⟨u,A,B⟩:=C k S
 match k,S with
 |0,_=>exact⟨u,A,h s u B⟩
 |1,_=>exact⟨u,A,b s u B⟩
 |k+2,S=>exact absurd S ZbS
theorem SQ(h:vb=uh):D.le (BS vb) (BS uh):=Ae (by rw[h])
theorem A3P:D.le (ex (.slice none 0 0)) (BS []):=AL
section
variable {P:Program} {hp:List Ow} {arg:Operand->AV} {dd:Option Tmp} {ty:TypeId} {ps:String} {af:Array Edge} {gd:Option (Nat×Bool)}
theorem QG(E:arg x=.d (wD l))(M:Tab P t (.slice n) b T z):Quiet P hp ⟨dd,.call { callee:=.builtin .len,args:=#[x],argTypes:=#[t] },ty,ps,af,gd⟩ arg (.d (ex (.int .i64 (l.length:Nat)))):=by
 refine⟨λbase s W i F y d h=>?_⟩;have B:=h x Zdc;rw[E]at B;obtain⟨A,c,Z,C⟩:=B.1;rw[Yar]at Z;refine Cc (v:=.int .i64 l.length) ?_ ⟨GS.Le.refl s,rfl⟩;simp[execOp,resolve,invoke,builtin,Z,Builtin.len_,run_underlying M.und,goInt]
theorem Mh{e n b N k:Nat}(F:arg x=.d (wD l))(O:arg y=.d (ex (.int o ((k:Nat):Int))))(M:Tab P t (.slice e) n b z)(I:Tab P e d 1 N u)(E:k<l.length):Quiet P hp ⟨dd,.indexAddr t x y,ty,ps,af,gd⟩ arg (.d (Fg 335 [ex (.int .u32 (l.getD k 0:Nat))])):=by
 refine⟨λbase s W i R Y X h=>?_⟩;have B:=h x ZcQ;have C:=h y ZcQ;rw[F]at B;rw[O]at C;have K:i y=.int o ((k:Nat):Int):=C;obtain⟨A,c,Z,L,S,J⟩:=B.1;rw[Yar]at Z J;obtain⟨g,p,rfl,Q⟩:=J ZbD;have V:=(Q k E).2
 have H:(l.map λx=>[ex (.int .u32 (x:Nat))]).getD k []=[ex (.int .u32 (l.getD k 0:Nat))]:=by
  simp[Yab,E]
 rw[H]at V;refine Cc (v:=.pointer (some ⟨g,p+k*1,none⟩)) ?_ ⟨GS.Le.refl s,g,_,rfl,V⟩;have G:k<l.length:=E;simp[execOp,Z,K,Instr.indexAt,asIntOf,run_underlying M.und,G,I.run_size,Addr.add_lit]
end
theorem JP(z:Int):Abs prog 285 [AP (Cr z)] (ex (.bool (decide (z=1)))):=by
 refine BI (Ag func285 ZbI ZbI) λs K F J r=>?_;rw[vs1 J];obtain⟨t,S,A,W,m,c⟩:=DS (r 0 ZbS);rw[m];exact(A32 t S A W z _ c).mono λe N ⟨b,V⟩=>⟨_,b,V,λj d g _ _=>rfl⟩
theorem FL(z:Int):Abs prog 235 [AP (Cr z)] (ex (.int .i64 z.sign)):=by
 refine BI (Ag func235 ZbI ZbI) λs K F J r=>?_;rw[vs1 J];obtain⟨t,S,A,W,m,c⟩:=DS (r 0 ZbS);rw[m];exact(A4C t S A W z _ c).mono λe N ⟨b,V⟩=>⟨_,b,V,λj d g _ _=>rfl⟩
theorem Qy(x y:Int)(f:(As x.natAbs).length<=4398046511104)(B:(As y.natAbs).length<=4398046511104):Abs prog 290 [AP (Cr x),AP (Cr y)] (AP (Cr (Nat.gcd x.natAbs y.natAbs:Nat))):=by
 refine BI (Ag func290 ZbI ZbI) λs K F J r=>?_;rw[vs2 J];obtain⟨t,S,E,W,C,c⟩:=DS (r 0 ZbS);obtain⟨I,M,G,L,Z,A⟩:=DS (r 1 ZbS);rw[C,Z];exact(A7B t I S M E W G L x y _ c A f B).mono λe N ⟨y,Y,m,k,b,i,V⟩=>⟨_,b,V,λj d g _ _=>by subst d;exact Hy g i⟩
theorem VD(x y:Int)(f:(As x.natAbs).length<=4398046511104)(B:(As y.natAbs).length<=4398046511104):Abs prog 286 [AP (Cr x),AP (Cr y)] (AP (Cr (x*y))):=by
 refine BI (Ag func286 ZbI ZbI) λs K F J r=>?_;rw[vs2 J];obtain⟨t,S,E,W,C,c⟩:=DS (r 0 ZbS);obtain⟨I,M,G,L,Z,A⟩:=DS (r 1 ZbS);rw[C,Z];exact(A7m t I S M E W G L x y _ c A f B).mono λe N ⟨y,Y,m,k,b,i,V⟩=>⟨_,b,V,λj d g _ _=>by subst d;exact Hy g i⟩
theorem Vu(z:Int)(c:-9223372036854775808<=z)(A:z<=9223372036854775807):Abs prog 139 [ex (.int .i64 z)] (AP (Cr z)):=by
 refine BI (Ag func139 ZbI ZbI) λs K F J r=>?_;rw[vs1 J];have B:K.getD 0 undef=.int .i64 z:=r 0 ZbS;rw[B];exact(A9q z _ c A).mono λe N ⟨y,Y,m,k,b,i,V⟩=>⟨_,b,V,λj d g _ _=>by subst d;exact Hy g i⟩
theorem SC(x y:Int)(f:(As x.natAbs).length<=4398046511103)(B:(As y.natAbs).length<=4398046511103):Abs prog 226 [AP (Cr x),AP (Cr y)] (AP (Cr (Nat.gcd x.natAbs y.natAbs:Nat))):=by
 refine BI (Ag func226 ZbI ZbI) λs K F J r=>?_;rw[vs2 J];obtain⟨t,S,E,W,C,c⟩:=DS (r 0 ZbS);obtain⟨I,M,G,L,Z,A⟩:=DS (r 1 ZbS);rw[C,Z];exact(A63 t I S M E W G L x y _ c A f B).mono λe N ⟨y,Y,m,k,b,i,V⟩=>⟨_,b,V,λj d g _ _=>by subst d;exact Hy g i⟩
theorem Kt(z:Int)(c:-9223372036854775808<=z)(A:z<=9223372036854775807):Abs prog 141 [ex (.int .i64 z)] (AP (Cr z)):=by
 refine BI (Ag func141 ZbI ZbI) λs K F J r=>?_;rw[vs1 J];have B:K.getD 0 undef=.int .i64 z:=r 0 ZbS;rw[B];exact(A83 z _ c A).mono λe N ⟨y,Y,m,k,b,i,V⟩=>⟨_,b,V,λj d g _ _=>by subst d;exact Hy g i⟩
theorem PP(x y:Nat):Abs prog 284 [wD (As x),wD (As y)] (ex (.int .i64 (Fx x y))):=by
 refine BI (Ag func284 ZbI ZbI) λs K F J r=>?_;rw[vs2 J];exact(Jg _ _ x y _ (Er (r 0 ZbS)) (Er (r 1 ZbS))).mono λe N ⟨b,V⟩=>⟨_,b,V,λj d g _ _=>rfl⟩
theorem HA(x y:Nat):Abs prog 276 [wD (As x),wD (As y)] (ex (.int .i64 (Fx x y))):=by
 refine BI (Ag func276 ZbI ZbI) λs K F J r=>?_;rw[vs2 J];exact(Hz _ _ x y _ (Er (r 0 ZbS)) (Er (r 1 ZbS))).mono λe N ⟨b,V⟩=>⟨_,b,V,λj d g _ _=>rfl⟩
section
variable {P:Program} {hp:List Ow} {arg:Operand->AV} {dd:Option Tmp} {ty:TypeId} {ps:String} {af:Array Edge} {gd:Option (Nat×Bool)}
theorem SH(E:arg x=.d (ex (.int .i64 a)))(A:-9223372036854775807<=a)(B:a<=9223372036854775807):Quiet P hp ⟨dd,.unOp .neg t x,ty,ps,af,gd⟩ arg (.d (ex (.int .i64 (-a)))):=by
 refine⟨λbase s W i F y d h=>?_⟩;have L:=h x ZcQ;rw[E]at L;have Z:i x=.int .i64 a:=L;have C:IntKind.i64.wrap (-a)=-a:=IntWalk.i64_in _ ZbD;exact Cc (v:=.int .i64 (-a)) (by simp[execOp,Z,Op.unary,Op.intArith,C]) ⟨GS.Le.refl s,rfl⟩
theorem GE(E:arg x=.d (ex (.int o a)))(r:Tab P t d n b z)(k:Tab P U (.int .i64) T m u)(A:-9223372036854775808<=a)(B:a<=9223372036854775807):Quiet P hp ⟨dd,.convert t U x,ty,ps,af,gd⟩ arg (.d (ex (.int .i64 a))):=by
 have:=QJ (hp:=hp) (dd:=dd) (ty:=ty) (ps:=ps) (af:=af) (gd:=gd) E r k;rwa [IntWalk.i64_in _ ZbD]at this
theorem NY{T U:TypeId}(E:arg x=.d (ex (.int .i64 1)))(O:arg y=.d (ex (.int .i64 (n:Nat))))(A:(n:Int)<9223372036854775807):Quiet P hp ⟨dd,.binOp .add T x y U,ty,ps,af,gd⟩ arg (.d (ex (.int .i64 ((n+1:Nat):Int)))):=by
 have:=Pn (P:=P) (hp:=hp) (dd:=dd) (ty:=ty) (ps:=ps) (af:=af) (gd:=gd) (T:=T) (U:=U) E O ZbD ZbD;rwa [show(1:Int)+n=((n+1:Nat):Int)by omega]at this
end
section
variable {P:Program} {hp:List Ow} {arg:Operand->AV} {dd:Option Tmp} {ty:TypeId} {ps:String} {af:Array Edge} {gd:Option (Nat×Bool)}
theorem WE(E:arg x=.d (Fg h v))(O:arg y=.d (ex (.int o a)))(M:Tab P t (.array k n) b T z)(A:Tab P n d m c u)(B:0<=a)(J:a<k)(X:PN (a.toNat*m) v=some vn):Quiet P hp ⟨dd,.indexAddr t x y,ty,ps,af,gd⟩ arg (.d (Fg h vn)):=by
 rw[(Nz X).1];exact NT (o:=⟨dd,.indexAddr t x y,ty,ps,af,gd⟩) rfl E O M A B J
theorem QH(E:arg x=.ptr h vj)(O:arg y=.d (ex (.int o a)))(M:Tab P t (.array k n) b T z)(A:Tab P n d m c u)(B:0<=a)(J:a<k):Quiet P hp ⟨dd,.indexAddr t x y,ty,ps,af,gd⟩ arg (.ptr h (vj+a.toNat*m)):=
 NS (o:=⟨dd,.indexAddr t x y,ty,ps,af,gd⟩) rfl E O M A B J
end
def r5C(r:Nat->Int):List D:=[ex (.int .i8 (r 0)),ex (.int .i8 (r 1)),ex (.int .i8 (r 2)),ex (.int .i8 (r 3)),ex (.int .i8 (r 4))]
theorem A9i(h:n<5):DK (r5C vh) n=ex (.int .i8 (vh n)):=by
 match n,h with
 |0,_=>rfl
 |1,_=>rfl
 |2,_=>rfl
 |3,_=>rfl
 |4,_=>rfl
theorem A3X(h:n<5):CellAt ((r5C vh).drop (n*1)) 0 (ex (.int .i8 (vh n))):=by
 rw[YbB];refine⟨by rw[YbQ];show 0<5-n;omega,?_⟩;rw[II];exact A9i h
def r5D(T:Nat)(X:List (Nat->Int)):D:=slD T 5 (X.map r5C)
def Hc(X:List (Nat->Int))(k:Nat):Nat->Int:=X.getD k default
theorem XW(h:n<vx.length):Hc vx n∈vx:=by
 unfold Hc;exact Zgc
end
