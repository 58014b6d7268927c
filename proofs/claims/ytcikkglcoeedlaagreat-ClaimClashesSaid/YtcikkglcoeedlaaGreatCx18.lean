/- Part 18 of the proof of claimClashes_holds. No condition. -/
import Derived.Test.YtcikkglcoeedlaaGreatCx3
import Derived.Test.YtcikkglcoeedlaaGreatCx4
import Derived.Test.YtcikkglcoeedlaaGreatCx10
import Derived.Test.YtcikkglcoeedlaaGreatCx15
import Derived.Test.YtcikkglcoeedlaaGreatCx16
import Derived.Test.YtcikkglcoeedlaaGreatCx17
set_option linter.unusedSimpArgs false
set_option linter.unusedVariables false
set_option maxRecDepth 100000
namespace Go.Proofs.YtcikkglcoeedlaaGreat
variable{vc:AS}{g:AV}{uV:Array (Nat×Operand)}{vI:Array Field}{ud:Array Oper}{uF:Array Operand}{vs:Array TypeId}{vT:BinOp}{p ul:Bool}{r vu:D}{vl:Exit->AS->Prop}{vP:Field}{vK:Func}{vb:FuncId}{s:GS}{a J:Int}{i:IntKind}{vp up:List (List D)}{vD:List (Nat->Int)}{vd:List (Nat×AV)}{uv:List (Nat×List D)}{vC:List (Nat×Nat)}{ue:List (Nat×Operand)}{o:List AV}{c vk uU:List D}{uj:List HR}{l:List Nat}{vf:List Oper}{vJ:List Operand}{H vw:List Ow}{vj uf:List Tm}{ub:List Value}{j:Type}{vE:List j}{n b T m e k va vo:Nat}{ve vx:Nat->Int}{ug:Op}{x y vX:Operand}{vv:Operand->AV}{P:Program}{vW:Tm}{d:TypeDesc}{t U:TypeId}{z v:Value}{w:World}{vM:j}{vY:j->List D}
section
open Go.RowKit
theorem Ag (p : P.funcs[vb]? = some vK) (h : (vK.name == "runtime.NumGoroutine") = false) (E : vK.body.isNone = false) (args : Array Value) (w : World) : (callFunc vb args).run P w = .ok (.enter vb args) w := by
 have:(program).run P w = .ok P w:=rfl;have X : ¬ vK.name = "runtime.NumGoroutine" := by simpa using h
 have d:¬vK.body=none:=λe=>by rw[e]at E;cases E
 simp[callFunc,this,p,X,d]
theorem Bv(C:∀args w,(callFunc vb args).run P w=.ok (.enter vb args) w)(h:∀(s:GS) (F:List Value),s.Ok->F.length=c.length->(∀k,k<c.length->(Df c k).rel s (F.getD k undef)) ->
  Calls P vb F.toArray s.w λe O=>∃v,e=.returned v/\Ext s.w O/\∀B:GS,B.w=O->B.Ok->(∀b k,s.w.heap.size<=b->b<O.heap.size->B.S b k)->GS.Le s B->r.rel B v):Abs P vb c r:=by
 refine⟨C,λs F T L o=>(h s F T L o).mono λe O ⟨v,a,X,Y⟩=>⟨v,a,s.grown O,rfl,Gk X,?_⟩⟩;exact Y _ rfl ((Gk X).ok T) (λb k u A=>.inr ⟨u,A⟩) (Gk X)
theorem vs1(h:ub.length=1):ub=[ub.getD 0 undef]:=by
 match ub,h with
 |[a],_=>rfl
theorem Yj(h:ub.length=2):ub=[ub.getD 0 undef,ub.getD 1 undef]:=by
 match ub,h with
 |[a,b],_=>rfl
def wD(l:List Nat):D:=⟨λs v=>(slD 335 1 (l.map λx=>[ex (.int .u32 (x:Nat))])).rel s v/\Bt l,λh G=>⟨(slD _ _ _).st h.1 G,h.2⟩⟩
theorem Ec(h:(wD l).rel s z):Words s.w z l:=by
 obtain⟨⟨A,c,B,C,I,V⟩,E⟩:=h;simp only[List.length_map]at B C V;refine⟨A,c,B,C,I,E,λg=>?_⟩;obtain⟨b,o,m,y⟩:=V g;obtain⟨_,Z,L,F,G⟩:=y 0 g;refine⟨b,o,Z,L,m,F,λi K=>?_⟩;obtain⟨N,O,S,M,Q⟩:=y i K;rw[F]at M;cases M;obtain⟨_,u,J,_,R⟩:=Q 0 (by rw[N];omega);have e:Df ((l.map λx=>[ex (.int .u32 (x:Nat))]).getD i []) 0=ex (.int .u32 (l[i]:Nat)):=by simp[Df,K]
 rw[e]at R;have R:u=_:=R;rw[Nat.mul_one,Nat.add_zero]at J;rw[J,R]
theorem KU(T:s.Ok)(h:Words s.w z l):(wD l).rel s z:=by
 obtain⟨A,c,u,B,I,E,V⟩:=h;refine⟨⟨A,c,by rw[List.length_map];exact u,by rw[List.length_map];exact B,I,λg=>?_⟩,E⟩;rw[List.length_map]at g;obtain⟨b,o,Z,G,m,y,F⟩:=V g;refine⟨b,o,m,λk C=>?_⟩;rw[List.length_map]at C;have e:(l.map λx=>[ex (.int .u32 (x:Nat))]).getD k []=[ex (.int .u32 (l[k]:Nat))]:=by simp[C]
 rw[e];refine⟨rfl,Z,G,y,λj i=>?_⟩;obtain rfl:j=0:=by simp at i;omega
 rw[Nat.mul_one,Nat.add_zero];exact⟨T.safe b _ ⟨Z,G,y⟩,_,F k C,rfl,rfl⟩
def Ci(z:Int):List D:=[ex (.bool (decide (z<0))),wD (Ao z.natAbs)]
def Fx(q:Rat):List D:=[ex (.bool (decide (q.num<0))),wD (Ao q.num.natAbs),ex (.bool (decide ((q.den:Int)<0))),wD (Ao (q.den:Int).natAbs)]
theorem RH(h:(wD l).rel s z):∃A n c,z=.slice A n c:=by
 obtain⟨A,c,u,_⟩:=h.1;exact⟨A,_,c,u⟩
theorem ag2(h:(AL [r,vu]).rel s z):∃E V,z=.agg #[E,V]/\r.rel s E/\vu.rel s V:=by
 obtain⟨Z,rfl,u,A⟩:=h;obtain⟨E,f,_,H⟩:=A 0 ZbK;obtain⟨V,d,_,c⟩:=A 1 ZbK;refine⟨E,V,?_,H,c⟩;congr 1;refine Array.ext (by simpa using u) λi R C=>?_;simp at C
 match i,C with
 |0,_=>exact Option.some.inj ((Array.getElem?_eq_getElem R).symm.trans f)
 |1,_=>exact Option.some.inj ((Array.getElem?_eq_getElem R).symm.trans d)
theorem Uz{l:List Value}(h:(AL (l.map ex)).rel s z):z=.agg l.toArray:=by
 obtain⟨Z,rfl,A,B⟩:=h;congr 1;refine Array.ext Zec λi R C=>?_;simp at C;obtain⟨u,e,_,r⟩:=B i Zdv;have v:Df (l.map ex) i=ex l[i]:=by simp[Df,C]
 rw[v]at r;have r:u=l[i]:=r;rw[Array.getElem?_eq_getElem R]at e;rw[Option.some.inj e,r];simp
theorem A5T{l:List Value}(h:Hp l=true):(AL (l.map ex)).rel s (.agg l.toArray):=by
 refine⟨_,rfl,by simp,λk B=>?_⟩;simp at B;refine⟨l[k],by simp[B],List.all_eq_true.1 h _ ZbK,?_⟩;have v:Df (l.map ex) k=ex l[k]:=by simp[Df,B]
 rw[v];rfl
theorem DD(h:(AL (Ci a)).rel s z):∃(b:Bool) (A:Option Addr) (n c:Nat),z=.agg #[.bool b,.slice A n c]/\IsInt s.w (.bool b) (.slice A n c) a:=by
 obtain⟨E,V,rfl,g,u⟩:=ag2 h;obtain rfl:E=_:=g;obtain⟨A,n,c,rfl⟩:=RH u;exact⟨_,A,n,c,rfl,rfl,Ec u⟩
theorem GB{A:Option Addr}(T:s.Ok)(h:IsInt s.w (.bool p) (.slice A n b) a):(AL (Ci a)).rel s (.agg #[.bool p,.slice A n b]):=by
 obtain⟨u,B⟩:=h;refine⟨_,rfl,rfl,λk C=>?_⟩;have C:k<2:=C
 match k,C with
 |0,_=>exact⟨_,rfl,rfl,u⟩
 |1,_=>exact⟨_,rfl,rfl,KU T B⟩
def Cr(a:Nat->Int):List D:=[ex (.int .i64 (a 0)),ex (.int .i64 (a 1)),ex (.int .i64 (a 2)),ex (.int .i64 (a 3)),ex (.int .i64 (a 4)),ex (.int .i64 (a 5)),ex (.int .i64 (a 6)),ex (.int .i64 (a 7))]
theorem CO(h:(AL (Cr ve)).rel s z):z=.agg (c8 ve):=Uz (l:=(c8 ve).toList) h
theorem A2J(a:Nat->Int):(AL (Cr a)).rel s (.agg (c8 a)):=A5T (l:=(c8 a).toList) rfl
theorem NG(h:n<8):Df (Cr ve) n=ex (.int .i64 (ve n)):=by
 match n,h with
 |0,_=>rfl
 |1,_=>rfl
 |2,_=>rfl
 |3,_=>rfl
 |4,_=>rfl
 |5,_=>rfl
 |6,_=>rfl
 |7,_=>rfl
def Nz(t:Tm):List D:=Fx t.c++Cr t.m
theorem TQ(a:Nat->Int):(Cr a).length=8:=rfl
theorem Kv(t:Tm):(Nz t).length=12:=rfl
theorem A0e(t:Tm):(Nz t).drop 4=Cr t.m:=rfl
theorem Rk{Z:Array Value}(w:Z.size=12)(h:∀k,k<12->∃u,Z[k]? = some u/\u.oneCell'=true/\(Df (Nz vW) k).rel s u):TmV s.w Z vW:=by
 obtain⟨M,f,_,H⟩:=h 0 Zbx;obtain⟨V,d,_,L⟩:=h 1 Zbx;obtain⟨N,v,_,G⟩:=h 2 Zbx;obtain⟨O,U,_,Q⟩:=h 3 Zbx;obtain rfl:M=_:=H;obtain rfl:N=_:=G;obtain⟨A,n,c,rfl⟩:=RH L;obtain⟨F,B,E,rfl⟩:=RH Q
 have C:∀i,i<8->Z[4+i]? = some (.int .i64 (vW.m i)):=λi K=>by
  obtain⟨u,e,_,r⟩:=h (4+i) Zbx;have v:Df (Nz vW) (4+i)=ex (.int .i64 (vW.m i)):=by rw[<-NG K,<-A0e,Ij]
  rw[v]at r;rw[e];exact congrArg some r
 refine⟨_,_,A,F,n,c,B,E,?_,⟨rfl,Ec L⟩,rfl,Ec Q⟩;refine Array.ext (by rw[w];rfl) λi R I=>?_;rw[w]at R;refine Option.some.inj ?_;rw[<-Array.getElem?_eq_getElem,<-Array.getElem?_eq_getElem]
 match i,R with
 |0,_=>exact f
 |1,_=>exact d
 |2,_=>exact v
 |3,_=>exact U
 |4,_=>exact C 0 Zbx
 |5,_=>exact C 1 Zbx
 |6,_=>exact C 2 Zbx
 |7,_=>exact C 3 Zbx
 |8,_=>exact C 4 Zbx
 |9,_=>exact C 5 Zbx
 |10,_=>exact C 6 Zbx
 |11,_=>exact C 7 Zbx
def Cd(P:List Tm):D:=slD 114 12 (P.map Nz)
theorem A0x(h:n<vj.length):(vj.map Nz).getD n []=Nz (Cm vj n):=Zhw
theorem YO(h:(Cd vj).rel s z):A5X s.w z vj:=by
 obtain⟨A,c,B,C,I,V⟩:=h;simp only[List.length_map]at B C V;refine⟨A,c,B,C,I,λg=>?_⟩;obtain⟨b,o,m,y⟩:=V g;obtain⟨_,Z,K,F,G⟩:=y 0 g;refine⟨b,o,Z,K,m,F,λk E=>?_⟩;obtain⟨M,N,S,L,O⟩:=y k E;rw[F]at L;cases L;rw[A0x E]at O;refine⟨Z.extract (o+k*12) (o+k*12+12),Rk (s:=s) ?_ λj i=>?_,λj i=>?_⟩
 .obtain ⟨_, u, e, _⟩:=O 11 (by simp [Kv])
  have:=(Array.getElem?_eq_some_iff.1 e).1;exact ZgC
 .obtain ⟨_,u,e,R,w⟩:=O j i
  exact⟨u,by rw[Array.getElem?_extract,if_pos (by have:=(Array.getElem?_eq_some_iff.1 e).1;obtain⟨_,Q,U,_⟩:=O 11 (by simp[Kv]);have:=(Array.getElem?_eq_some_iff.1 U).1;omega)];exact e,R,w⟩
 .obtain ⟨_, Q, U, _⟩:=O 11 (by simp [Kv])
  have:=(Array.getElem?_eq_some_iff.1 U).1;rw[Array.getElem?_extract,if_pos Zbx]
theorem A6g(C:r.rel s z)(N:vu.rel s v):(EX [r,vu]).rel s (.tuple #[z,v]):=⟨_,rfl,rfl,λk B=>by
 match k,B with
 |0,_=>exact⟨_,rfl,C⟩
 |1,_=>exact⟨_,rfl,N⟩
 |k+2,B=>exact absurd B ZbK⟩
def EZ(R:List (Nat->Int)):D:=slD 36 8 (R.map Cr)
theorem A0r(h:n<vD.length):(vD.map Cr).getD n []=Cr (MP vD n):=by simp[MP,List.getD_eq_getElem?_getD,List.getElem?_eq_getElem h]
theorem A0s(h:RowsAt .i64 t s.w z vD)(l:∀b o,(∃n c,z=.slice (some ⟨b,o,none⟩) n c)->∀k,s.S b k):(slD t 8 (vD.map Cr)).rel s z:=by
 obtain⟨A,c,u,B,I,V⟩:=h;refine⟨A,c,by rw[List.length_map];exact u,by rw[List.length_map];exact B,I,λg=>?_⟩;rw[List.length_map]at g;obtain⟨b,o,Z,G,m,y,e⟩:=V g;subst m;refine⟨b,o,rfl,λk C=>?_⟩;rw[List.length_map]at C;rw[A0r C];refine⟨rfl,Z,G,y,λj i=>⟨l b o ⟨_,_,u⟩ _,_,e k j C i,rfl,?_⟩⟩;rw[NG i];rfl
theorem Lb(h:OwnRows 36 n w z vD)(V:s.w=w)(l:∀b k,n<=b->b<w.heap.size->s.S b k):(EZ vD).rel s z:=by
 subst V;refine A0s h.rows λb o ⟨u,c,B⟩ k=>?_;obtain⟨A,I⟩:=h;rcases I with⟨e,_⟩ | ⟨g,cap,cur,e,h5,h6,_⟩
 .rw [e]at B;cases B
 .rw [e]at B
  cases B;exact l _ k h5 (Bj h6)
theorem Tn(h:(AL (Nz vW)).rel s z):∃(b x:Bool) (A k:Option Addr) (n c e r:Nat),z=.agg (tmc b x A k n c e r vW.m)/\IsRat s.w (.bool b) (.slice A n c) (.bool x) (.slice k e r) vW.c:=by
 obtain⟨Z,rfl,u,B⟩:=h;obtain⟨b,x,A,k,n,c,e,r,rfl,I⟩:=Rk (s:=s) u B;exact⟨b,x,A,k,n,c,e,r,rfl,I⟩
theorem RA(z:Int):Abs Tryz.prog 238 [AL (Ci z)] (ex (.int .i64 z.sign)):=by
 refine Bv (Ag Tryz.func238 Zbz Zbz) λs F T L o=>?_;rw[vs1 L];obtain⟨r,j,A,p,f,g⟩:=DD (o 0 ZbK);rw[f];exact(ZA r j A p z _ g).mono λe O ⟨a,X⟩=>⟨_,a,X,λc V u _ _=>rfl⟩
theorem OP(a b:Nat->Int):Abs Tryz.prog 297 [AL (Cr a),AL (Cr b)] (ex (.int .i64 (IE a b))):=by
 refine Bv (Ag Tryz.func297 Zbz Zbz) λs F T L o=>?_;rw[Yj L];have f:=CO (o 0 ZbK);have d:=CO (o 1 ZbK);rw[f,d];exact(A0R a b _).mono λe O ⟨u,X⟩=>⟨_,u,X,λc V A _ _=>rfl⟩
theorem FK(a b:Nat->Int):Abs Tryz.prog 229 [AL (Cr a),AL (Cr b)] (ex (.int .i64 (IE a b))):=by
 refine Bv (Ag Tryz.func229 Zbz Zbz) λs F T L o=>?_;rw[Yj L];have f:=CO (o 0 ZbK);have d:=CO (o 1 ZbK);rw[f,d];exact(ZC a b _).mono λe O ⟨u,X⟩=>⟨_,u,X,λc V A _ _=>rfl⟩
theorem A0Q(a b:Nat->Int)(t:In8 a 0 65535)(E:In8 b 0 65535)(h:In8 (Cs a b) 0 65535):Abs Tryz.prog 323 [AL (Cr a),AL (Cr b)] (EX [AL (Cr (Cs a b)),ex (.int .i64 0)]):=by
 refine Bv (Ag Tryz.func323 Zbz Zbz) λs F T L o=>?_;rw[Yj L];have f:=CO (o 0 ZbK);have d:=CO (o 1 ZbK);rw[f,d];exact(YZ a b _ t E h).mono λe O ⟨u,X⟩=>⟨_,u,X,λc V A _ _=>A6g (A2J _) rfl⟩
theorem TT(a:Nat->Int)(h:In8 a (-1000000) 1000000):Abs Tryz.prog 289 [AL (Cr a)] (ex (.int .i64 (DE a 8))):=by
 refine Bv (Ag Tryz.func289 Zbz Zbz) λs F T L o=>?_;rw[vs1 L];have f:=CO (o 0 ZbK);rw[f];exact(WX a _ h).mono λe O ⟨u,X⟩=>⟨_,u,X,λc V A _ _=>rfl⟩
theorem Sp(a:Nat->Int):Abs Tryz.prog 299 [AL (Cr a)] (ex (.int .u8 (suppTo a 8))):=by
 refine Bv (Ag Tryz.func299 Zbz Zbz) λs F T L o=>?_;rw[vs1 L];have f:=CO (o 0 ZbK);rw[f];exact(UA a _).mono λe O ⟨u,X⟩=>⟨_,u,X,λc V A _ _=>rfl⟩
theorem Jk(a:Nat->Int)(h:In8 a 0 65535):Abs Tryz.prog 298 [AL (Cr a)] (ex (.bool true)):=by
 refine Bv (Ag Tryz.func298 Zbz Zbz) λs F T L o=>?_;rw[vs1 L];have f:=CO (o 0 ZbK);rw[f];exact(MU a _ h).mono λe O ⟨u,X⟩=>⟨_,u,X,λc V A _ _=>rfl⟩
theorem TS(a:Nat->Int)(h:¬In8 a 0 65535):Abs Tryz.prog 298 [AL (Cr a)] (ex (.bool false)):=by
 refine Bv (Ag Tryz.func298 Zbz Zbz) λs F T L o=>?_;rw[vs1 L];have f:=CO (o 0 ZbK);rw[f];exact(So a _ h).mono λe O ⟨u,X⟩=>⟨_,u,X,λc V A _ _=>rfl⟩
theorem A1z:Abs Tryz.prog 129 [] (EZ []):=by
 refine Bv (Ag Tryz.func129 Zbz Zbz) λs F T L o=>?_;obtain rfl:F=[]:=List.eq_nil_of_length_eq_zero L;exact(A1y s.w).mono λe O ⟨A,c,a,C,X⟩=>⟨_,a,X,λu V B l _=>Lb C V l⟩
theorem UJ:Abs Tryz.prog 130 [] (EZ [BH 255]):=by
 refine Bv (Ag Tryz.func130 Zbz Zbz) λs F T L o=>?_;obtain rfl:F=[]:=List.eq_nil_of_length_eq_zero L;exact(Nk s.w).mono λe O ⟨A,c,a,C,X⟩=>⟨_,a,X,λu V B l _=>Lb C V l⟩
theorem Lz:Abs Tryz.prog 131 [] (EZ revRows):=by
 refine Bv (Ag Tryz.func131 Zbz Zbz) λs F T L o=>?_;obtain rfl:F=[]:=List.eq_nil_of_length_eq_zero L;exact(Ly s.w).mono λe O ⟨A,c,a,C,X⟩=>⟨_,a,X,λu V B l _=>Lb C V l⟩
theorem Ms(m:Nat)(B:m<256):Abs Tryz.prog 132 [ex (.int .u8 m)] (EZ (BH m::revRows)):=by
 refine Bv (Ag Tryz.func132 Zbz Zbz) λs F T L o=>?_;rw[vs1 L];have f:F.getD 0 undef=.int .u8 m:=o 0 ZbK;rw[f];exact(Mr m _ B).mono λe O ⟨A,c,a,E,X⟩=>⟨_,a,X,λu V C l _=>Lb E V l⟩
theorem Qq(t u:Tm):Abs Tryz.prog 50 [AL (Nz t),AL (Nz u)] (ex (.bool (tmB t u))):=by
 refine Bv (Ag Tryz.func50 Zbz Zbz) λs F T L o=>?_;rw[Yj L];obtain⟨r,R,j,G,C,p,Q,M,f,g⟩:=Tn (o 0 ZbK);obtain⟨K,W,S,I,m,h,N,E,d,A⟩:=Tn (o 1 ZbK);rw[f,d];exact(Qp r R j G C p Q M K W S I m h N E t u _ g A).mono λe O ⟨a,X⟩=>⟨_,a,X,λc V B _ _=>rfl⟩
theorem A2Z:(c.map AV.d)[n]? = if n<c.length then some (.d (Df c n))else none:=by
 rw[List.getElem?_map];split
 .rename_i h
  simp[Df,h]
 .rename_i h
  simp[List.getElem?_eq_none (Nat.le_of_not_lt h)]
section
variable {P:Program} {hp:List Ow} {o:Oper} {arg:Operand->AV}
theorem Wv(A:o.op=.binOp .add t x y U)(C:arg x=.d (ex (.int .i64 (n:Nat))))(N:arg y=.d (ex (.int .i64 1)))(u:(n:Int)<9223372036854775807):Quiet P hp o arg (.d (ex (.int .i64 ((n+1:Nat):Int)))):=
 Quiet.add A C N Zbx Zbx
theorem Quiet.quo(B:o.op=.binOp .quo t x y U)(C:arg x=.d (ex (.int .i64 a)))(N:arg y=.d (ex (.int .i64 J)))(g:0<=a)(u:a<=9223372036854775807)(E:0<J):Quiet P hp o arg (.d (ex (.int .i64 (a/J)))):=
 Cu B C N λw=>by
  have A:a/J<=a:=Int.ediv_le_self J g;have I:0<=a/J:=Int.ediv_nonneg g Zbx;have V:a.tdiv J=a/J:=Int.tdiv_eq_ediv_of_nonneg g;have e:IntKind.i64.wrap (a/J)=a/J:=IntWalk.i64_in _ Zbx;have F:J≠0:=by omega
  simp[eqGuard,binOp,Op.intDiv,F,V,e]
theorem Quiet.rem(u:o.op=.binOp .rem t x y U)(C:arg x=.d (ex (.int i a)))(N:arg y=.d (ex (.int i J)))(g:0<=a)(E:0<J):Quiet P hp o arg (.d (ex (.int i (a%J)))):=
 Cu u C N λw=>by
  have V:a.tmod J=a%J:=Int.tmod_eq_emod_of_nonneg g;have B:J≠0:=by omega
  simp[eqGuard,binOp,Op.intDiv,B,V]
theorem Ww(u:o.op=.binOp .rem t x y U)(C:arg x=.d (ex (.int i a)))(N:arg y=.d (ex (.int i J)))(E:J≠0):Quiet P hp o arg (.d (ex (.int i (a.tmod J)))):=
 Cu u C N λw=>by simp[eqGuard,binOp,Op.intDiv,E]
theorem Quiet.max(B:o.op=.call { callee:=.builtin .max,args:=#[x,y],argTypes:=vs })(C:arg x=.d (ex (.int i a)))(N:arg y=.d (ex (.int i J))):Quiet P hp o arg (.d (ex (.int i (Max.max a J)))):=by
 refine⟨λbase s S j T w E h=>?_⟩;have u:=h x Zeq;have A:=h y Zeq;rw[C]at u;rw[N]at A;have d:j x=.int i a:=u;have v:j y=.int i J:=A;refine BL (v:=.int i (Max.max a J)) ?_ ⟨GS.Le.refl s,rfl⟩
 have U:(if J>a then J else a)=Max.max a J:=by
  rw[Int.max_def];by_cases h:a<=J
  .rw [if_pos h];split<;>omega
  .rw [if_neg h,if_neg Zbx]
 simp only[execOp,B,resolve,invoke,builtin,Sem.run_bind,Sem.run_pure,Result.andThen_ok,List.map_toArray,List.map_cons,List.map_nil,d,v,Builtin.max_,List.foldlM_cons,List.foldlM_nil,Builtin.max2,U]
theorem ZJ(G:o.op=.binOp .or t x y U)(C:arg x=.d (ex (.int .u8 (n:Nat))))(N:arg y=.d (ex (.int .u8 (b:Nat))))(B:n<256)(E:b<256):Quiet P hp o arg (.d (ex (.int .u8 ((n ||| b:Nat):Int)))):=
 Cu G C N λw=>by
  have u:(BitVec.ofInt 8 (n:Int) ||| BitVec.ofInt 8 (b:Int)).toNat=n ||| b:=by
   rw[BitVec.toNat_or,BitVec.ofInt_natCast,BitVec.ofInt_natCast,BitVec.toNat_ofNat,BitVec.toNat_ofNat,Nat.mod_eq_of_lt B,Nat.mod_eq_of_lt E]
  have A:n ||| b<256:=Nat.or_lt_two_pow (n:=8) B E
  have I:IntKind.u8.wrap ((n ||| b:Nat):Int)=((n ||| b:Nat):Int):=by
   unfold IntKind.wrap;have:(((n ||| b:Nat):Int))%(2^IntKind.u8.bits:Int)=((n ||| b:Nat):Int):=Int.emod_eq_of_lt Zbx (by show _<(256:Int);omega);simp[this,IntKind.signed]
  have V:(BitVec.ofInt IntKind.u8.bits (n:Int) ||| BitVec.ofInt IntKind.u8.bits (b:Int)).toNat=n ||| b:=u
  have m:n%2^IntKind.u8.bits=n:=Nat.mod_eq_of_lt B;have F:b%2^IntKind.u8.bits=b:=Nat.mod_eq_of_lt E;simp[eqGuard,binOp,Op.intBits,m,F,I]
theorem SL[Inhabited j](E:o.op=.indexAddr t x y)(C:II hp (arg x)=some (slD k va (vE.map vY)))(N:arg y=.d (ex (.int i (vo:Nat))))(M:Tab P t (.slice n) b T z)(a:Tab P n d m e v)(w:m=va)(B:vo<vE.length):Quiet P hp o arg (.d (Et k (vY (vE.getD vo default)))):=by
 have u:=Quiet.index (P:=P) (hp:=hp) E C N M a w Zbx ZgC
 have A:(vE.map vY).getD ((vo:Nat):Int).toNat []=vY (vE.getD vo default):=by
  show(vE.map vY).getD vo []=_;simp[List.getD_eq_getElem?_getD,B]
 rwa [A]at u
theorem SK(u:o.op=.load t x)(C:arg x=.d (Et T c))(M:Tab P t d n b z)(W:DS d=true)(h:c.length=n):Quiet P hp o arg (.d (AL c)):=by
 have:=Jz (P:=P) (hp:=hp) u C M W Zbx;rwa [<-h,List.take_length]at this
theorem PA{hp:List Ow}:∀(l:List D),VV hp (l.map .d)=some l
 |[]=>rfl
 |x::l=>by simp only[List.map_cons,VV,II,PA l]
theorem UL(u:o.op=.load t x)(C:arg x=.ptr m e)(i:hp[m]? = some (.var T (c.map .d)))(M:Tab P t d n b z)(W:DS d=true)(h:Nat.ble (e+n) c.length=true):Quiet P hp o arg (.d (AL ((c.drop e).take n))):=
 UK u C i M W (by rw[<-List.map_drop,<-List.map_take];exact PA _) (by have:=Nat.le_of_ble_eq_true h;simpa using this)
theorem LD(u:o.op=.load t x)(C:arg x=.ptr m e)(i:hp[m]? = some (.var T (c.map .d)))(M:Tab P t d n b z)(W:DS d=false)(h:e<c.length):Quiet P hp o arg (.d (Df c e)):=
 LA u C i M W (by rw[A2Z,if_pos h])
end
section
variable {P:Program} {s0:An} {n:Nat} {ops:Array Oper} {Q:Exit->AS->Prop} {rest:List Oper} {o:Oper} {σ:AS}
theorem Xd{b id m:Nat}{cells:List AV}(u:o.op=.store t x y)(G:o.guard=none)(O:o.dst=none)(C:σ.arg x=.ptr id 0)(N:σ.arg y=.d (AL c))(i:σ.hp[id]? = some (.var U cells))(M:Tab P t d m b z)(s:c.length=m)(Z:cells.length=m)
  (h:AWl P s0 n ops Q rest { fr:=σ.fr,hp:=σ.hp.set id (.var U (c.map .d)) }):AWl P s0 n ops Q (o::rest) σ:=by
 refine Qc u G O C N i M s Zbx ?_
 have:It cells 0 (c.map .d)=c.map .d:=by
  unfold It;rw[List.take_zero,List.nil_append,List.drop_eq_nil_of_le ZgC,List.append_nil]
 rw[this];exact h
theorem Qb{b id m off:Nat}(u:o.op=.store t x y)(G:o.guard=none)(O:o.dst=none)(C:σ.arg x=.ptr id off)(N:σ.arg y=.d (AL vk))(i:σ.hp[id]? = some (.var U (c.map .d)))(M:Tab P t d m b z)(s:vk.length=m)(Z:Nat.ble (off+m) c.length=true)
  (h:AWl P s0 n ops Q rest { fr:=σ.fr,hp:=σ.hp.set id (.var U ((QI c off vk).map .d)) }):AWl P s0 n ops Q (o::rest) σ:=by
 refine Qc u G O C N i M s (by have:=Nat.le_of_ble_eq_true Z;simpa using this) ?_;have:It (c.map .d) off (vk.map .d)=(QI c off vk).map .d:=by simp[It,QI]
 rw[this];exact h
theorem Nn{b id off:Nat}(A:o.op=.store t x y)(G:o.guard=none)(O:o.dst=none)(C:σ.arg x=.ptr id off)(N:σ.arg y=.d r)(i:σ.hp[id]? = some (.var U (c.map .d)))(M:Tab P t d 1 b z)(u:One σ.hp (.d r))(Z:off<c.length)
  (h:AWl P s0 n ops Q rest { fr:=σ.fr,hp:=σ.hp.set id (.var U ((c.set off r).map .d)) }):AWl P s0 n ops Q (o::rest) σ:=by
 refine Qd A G O C N i M u (by simpa using Z) ?_;have:(c.map AV.d).set off (.d r)=(c.set off r).map .d:=by rw[List.map_set]
 rw[this];exact h
theorem Xh{m b:Nat}(C:o.op=.alloc t)(G:o.guard=none)(M:Tab P t d m b z)(g:Nat.beq t 335=false)(u:Hp z.cells.toList=true)(W:Td o.dst n=true)(h:AWl P s0 n ops Q rest (σ.new o.dst (.ptr σ.hp.length 0) (.var t ((z.cells.toList.map ex).map .d)))):AWl P s0 n ops Q (o::rest) σ:=by
 refine AWl.alloc C G M (Nat.ne_of_beq_eq_false g) u W ?_;have:Vg z.cells.toList=(z.cells.toList.map ex).map .d:=by simp[Vg]
 rw[this];exact h
end
def A6z(S:List (Nat×AV)):Operand->Option AV
 |.tmp t=>BR S t
 |.const v=>some (.d (ex v))
 |.global g=>some (.d (ex (.pointer (some ⟨g,0,none⟩))))
 |.func f=>some (.d (ex (.func (.func f) #[] #[])))
theorem ao(h:A6z vd x=some g):AS.arg ⟨vd,H⟩ x=g:=by
 cases x with
 |tmp t=>
  show(BR vd t).getD (.d Cw)=g;have h:BR vd t=some g:=h;rw[h];rfl
 |const v=>exact Zhx
 |global u=>exact Zhx
 |func f=>exact Zhx
theorem Wx{o:Oper}(u:o.op=.call { callee:=.builtin .len,args:=#[x],argTypes:=#[t] })(C:II H (vv x)=some (slD m e (vE.map vY)))(M:Tab P t (.slice n) b T z):Quiet P H o vv (.d (ex (.int .i64 (vE.length:Nat)))):=by
 have:=Quiet.len (P:=P) u C M;rwa [List.length_map]at this
def MZ:List (Nat×Nat)->Nat->Option Nat
 |[],_=>none
 |p::r,t=>bif Nat.beq p.1 t then some p.2 else MZ r t
theorem Pa:∀{l:List (Nat×Nat)} {t j:Nat},MZ l t=some j->∃p,l.find? (λp=>p.1==t)=some p/\p.2=j
 |[],_,_,h=>by cases h
 |p::r,t,j,h=>by
  unfold MZ at h
  cases E:Nat.beq p.1 t with
  |true=>rw[E]at h;cases h;exact⟨p,by rw[List.find?_cons,Nat.eq_of_beq_eq_true E];simp,rfl⟩
  |false=>
   rw[E]at h;obtain⟨q,u,A⟩:=Pa h;refine⟨q,?_,A⟩;rw[List.find?_cons];have:(p.1==t)=false:=by simpa using Nat.ne_of_beq_eq_false E
   rw[this];exact u
theorem Pb:∀{l:List (Nat×Nat)} {t:Nat},MZ l t=none->l.find? (λp=>p.1==t)=none
 |[],_,_=>rfl
 |p::r,t,h=>by
  unfold MZ at h
  cases E:Nat.beq p.1 t with
  |true=>rw[E]at h;cases h
  |false=>
   rw[E]at h;rw[List.find?_cons];have:(p.1==t)=false:=by simpa using Nat.ne_of_beq_eq_false E
   rw[this];exact Pb h
def GX:Option HR->Option AV
 |some (.av r)=>some r
 |_=>none
def A6y(S:List (Nat×AV))(u:List HR)(l:List (Nat×Nat)):Operand->Option AV
 |.tmp t=>match MZ l t with
  |some j=>GX u[j]?
  |none=>BR S t
 |.const v=>some (.d (ex v))
 |.global _=>none
 |.func f=>some (.d (ex (.func (.func f) #[] #[])))
theorem ah{fr:List (Nat×AV)}{hp:List Ow}{rs:List HR}{es:List (Nat×Nat)}{x:Operand}{av:AV}(h:A6y fr rs es x=some av):Eo ⟨fr,hp⟩ rs es x=av:=by
 cases x with
 | tmp t=>
  replace h:(match MZ es t with
   | some j=>GX rs[j]?
   | none=>BR fr t)=some av:=h
  show (match es.find? (λp=>p.1==t) with
   | some p=>match rs[p.2]? with
    | some h=>h.val
    | none=>.d Cw
   | none=>(BR fr t).getD (.d Cw))=av
  cases hf:MZ es t with
  | some j=>
   rw [hf] at h
   replace h:GX rs[j]? = some av:=h
   obtain ⟨p,h1,h2⟩:=Pa hf
   simp only [h1,h2]
   cases hr:rs[j]? with
   | none=>rw [hr] at h;cases h
   | some r=>
    rw [hr] at h
    cases r with
    | av r=>cases h;rfl
    | new T cs=>cases h
  | none=>
   rw [hf] at h
   simp only [Pb hf]
   have h:BR fr t=some av:=h
   rw [h];rfl
 | const v=>exact Option.some.inj h
 | global g=>cases h
 | func f=>exact Option.some.inj h
def Fk:List Ow->Ow->Option (List Ow)
 |[],x=>some [x]
 |o::l,x=>match Fk l x with
  |some r=>some (o::r)
  |none=>none
theorem Ex:∀{l:List Ow} {x:Ow} {r:List Ow},Fk l x=some r->r=l++[x]
 |[],x,r,h=>by cases h;rfl
 |o::l,x,r,h=>by
  unfold Fk at h;split at h
  .rename_i I d
   cases h;rw[Ex d];rfl
  .cases h
def GW:List Ow->Option Nat
 |[]=>some 0
 |_::l=>match GW l with
  |some k=>some (k+1)
  |none=>none
theorem ET:∀{l:List Ow} {k:Nat},GW l=some k->k=l.length
 |[],k,h=>by cases h;rfl
 |o::l,k,h=>by
  unfold GW at h;split at h
  .rename_i I d
   cases h;rw[ET d];rfl
  .cases h
def Fu:List Ow->Nat->Ow->Option (List Ow)
 |[],_,_=>none
 |_::l,0,x=>some (x::l)
 |o::l,i+1,x=>match Fu l i x with
  |some r=>some (o::r)
  |none=>none
theorem Er:∀{l:List Ow} {i:Nat} {x:Ow} {r:List Ow},Fu l i x=some r->r=l.set i x
 |[],_,_,_,h=>by cases h
 |_::l,0,x,r,h=>by cases h;rfl
 |o::l,i+1,x,r,h=>by
  unfold Fu at h;split at h
  .rename_i I d
   cases h;rw[Er d];rfl
  .cases h
def exO:List Value->Option (List D)
 |[]=>some []
 |v::l=>match exO l with
  |some r=>some (ex v::r)
  |none=>none
theorem Ph:∀{l:List Value} {r:List D},exO l=some r->r=l.map ex
 |[],r,h=>by cases h;rfl
 |v::l,r,h=>by
  unfold exO at h;split at h
  .rename_i I d
   cases h;rw[Ph d];rfl
  .cases h
def MK:Nat->List D->Option (List D)
 |0,_=>some []
 |_+1,[]=>none
 |n+1,d::l=>match MK n l with
  |some r=>some (d::r)
  |none=>none
theorem KW:∀{n:Nat} {l r:List D},MK n l=some r->r=l.take n/\n<=l.length
 |0,l,r,h=>by cases h;exact⟨rfl,Nat.zero_le _⟩
 |n+1,[],r,h=>by cases h
 |n+1,d::l,r,h=>by
  unfold MK at h;split at h
  .rename_i I B
   cases h;obtain⟨u,A⟩:=KW B;exact⟨by rw[u];rfl,by simpa using A⟩
  .cases h
def A0i:Nat->Nat->List D->Option (List D)
 |0,n,l=>MK n l
 |_+1,_,[]=>none
 |o+1,n,_::l=>A0i o n l
theorem Xo:∀{o n:Nat} {l r:List D},A0i o n l=some r->r=(l.drop o).take n/\o+n<=l.length
 |0,n,l,r,h=>by
  obtain⟨u,A⟩:=KW (n:=n) (l:=l) (r:=r) (by cases l<;>exact h);exact⟨u,by omega⟩
 |o+1,n,[],r,h=>by cases h
 |o+1,n,d::l,r,h=>by
  obtain⟨u,A⟩:=Xo (o:=o) Zdp;exact⟨u,by simp;omega⟩
def atO:Nat->List D->Option D
 |_,[]=>none
 |0,d::_=>some d
 |i+1,_::l=>atO i l
theorem SD:∀{i:Nat} {l:List D} {d:D},atO i l=some d->d=Df l i/\i<l.length
 |i,[],d,h=>by cases i<;>cases h
 |0,x::l,d,h=>by cases h;exact⟨rfl,by simp⟩
 |i+1,x::l,d,h=>by
  obtain⟨u,A⟩:=SD (i:=i) Zdp;exact⟨u,by simpa using A⟩
def A0v:List D->List D->Option (List D)
 |[],r=>some r
 |d::l,r=>match A0v l r with
  |some x=>some (d::x)
  |none=>none
theorem XA:∀{l r x:List D},A0v l r=some x->x=l++r
 |[],r,x,h=>by cases h;rfl
 |d::l,r,x,h=>by
  unfold A0v at h;split at h
  .rename_i P u
   cases h;rw[XA u];rfl
  .cases h
def Nb:Nat->List D->Option (List D)
 |0,l=>some l
 |_+1,[]=>none
 |n+1,_::l=>Nb n l
theorem Lk:∀{n:Nat} {l r:List D},Nb n l=some r->r=l.drop n/\n<=l.length
 |0,l,r,h=>by cases l<;>(cases h;exact⟨rfl,Nat.zero_le _⟩)
 |n+1,[],r,h=>by cases h
 |n+1,d::l,r,h=>by
  obtain⟨u,A⟩:=Lk (n:=n) Zdp;exact⟨u,by simpa using A⟩
def RN:List D->Nat->List D->Option (List D)
 |l,0,u=>match Nb u.length l with
  |some r=>A0v u r
  |none=>none
 |[],_+1,_=>none
 |d::l,o+1,u=>match RN l o u with
  |some r=>some (d::r)
  |none=>none
theorem NA:∀{l:List D} {o:Nat} {B r:List D},RN l o B=some r->r=QI l o B/\o+B.length<=l.length
 |l,0,B,r,h=>by
  have E:(match Nb B.length l with
   |some r=>A0v B r
   |none=>none)=some r:=by cases l<;>exact h
  split at E
  .rename_i C u
   obtain⟨A,I⟩:=Lk u;rw[XA E,A];exact⟨by simp[QI],by omega⟩
  .cases E
 |[],o+1,B,r,h=>by cases h
 |d::l,o+1,B,r,h=>by
  unfold RN at h;split at h
  .rename_i C u
   cases h;obtain⟨A,I⟩:=NA u;rw[A];refine⟨?_,by simp;omega⟩;simp only[QI,List.take_succ_cons,List.cons_append];rw[show o+1+B.length=(o+B.length)+1 by omega,List.drop_succ_cons]
  .cases h
def Ii(id:Nat)(x:D):List (Nat×AV)->Option (List (Nat×AV))
 |[]=>some []
 |(t,.own j)::l=>match Ii id x l with
  |some r=>bif Nat.beq j id then some ((t,.d x)::r)else some ((t,.own j)::r)
  |none=>none
 |(t,.fn f M)::l=>match Ii id x l with
  |some r=>bif M.contains id then some ((t,.d Cw)::r)else some ((t,.fn f M)::r)
  |none=>none
 |(t,H)::l=>match Ii id x l with
  |some r=>some ((t,H)::r)
  |none=>none
theorem Pj{id:Nat}{x:D}:∀{l r:List (Nat×AV)},Ii id x l=some r->r=l.map λp=>(p.1,down id x p.2)
 |[],r,h=>by cases h;rfl
 |(t,H)::l,r,h=>by
  have key:∃I,Ii id x l=some I/\r=(t,down id x H)::I:=by
   cases H with
   |d y=>
    replace h:(match Ii id x l with
     |some r=>some ((t,.d y)::r)
     |none=>none)=some r:=h
    split at h
    .rename_i I A;cases h;exact⟨I,A,rfl⟩
    .cases h
   |fn f M=>
    replace h:(match Ii id x l with
     |some r=>bif M.contains id then some ((t,.d Cw)::r)else some ((t,.fn f M)::r)
     |none=>none)=some r:=h
    split at h
    .rename_i I A
     cases E:M.contains id with
     |true=>rw[E]at h;cases h;exact⟨I,A,by simp only[down,E];rfl⟩
     |false=>rw[E]at h;cases h;exact⟨I,A,by simp only[down,E];rfl⟩
    .cases h
   |ptr i o=>
    replace h:(match Ii id x l with
     |some r=>some ((t,.ptr i o)::r)
     |none=>none)=some r:=h
    split at h
    .rename_i I A;cases h;exact⟨I,A,rfl⟩
    .cases h
   |own j=>
    replace h:(match Ii id x l with
     |some r=>bif Nat.beq j id then some ((t,.d x)::r)else some ((t,.own j)::r)
     |none=>none)=some r:=h
    split at h
    .rename_i I A
     cases E:Nat.beq j id with
     |true=>rw[E]at h;cases h;exact⟨I,A,by simp[down,E]⟩
     |false=>rw[E]at h;cases h;exact⟨I,A,by simp[down,E]⟩
    .cases h
  obtain⟨I,u,rfl⟩:=key;rw[Pj u];rfl
def EY(id:Nat):List AV->Bool
 |[]=>true
 |.own j::l=>bif Nat.beq j id then false else EY id l
 |.fn _ M::l=>bif M.contains id then false else EY id l
 |_::l=>EY id l
def Gy(id:Nat):List Ow->Bool
 |[]=>true
 |.var _ c::l=>EY id c&&Gy id l
 |.pin c::l=>EY id (c.map (·.2))&&Gy id l
 |_::l=>Gy id l
theorem Fd{id:Nat}{x:D}:∀{l:List AV},EY id l=true->l.map (down id x)=l
 |[],_=>rfl
 |.d y::l,h=>by rw[List.map_cons,Fd Zdp];rfl
 |.ptr _ _::l,h=>by rw[List.map_cons,Fd Zdp];rfl
 |.own j::l,h=>by
  replace h:(bif Nat.beq j id then false else EY id l)=true:=h
  cases E:Nat.beq j id with
  |true=>rw[E]at h;cases h
  |false=>rw[E]at h;rw[List.map_cons,Fd Zdp];exact Zgm
 |.fn f M::l,h=>by
  replace h:(bif M.contains id then false else EY id l)=true:=h
  cases E:M.contains id with
  |true=>rw[E]at h;cases h
  |false=>rw[E]at h;rw[List.map_cons,Fd Zdp];exact Zgm
theorem OA{x:D}:∀{l:List (Value×AV)},EY n (l.map (·.2))=true->(l.map λp=>(p.1,down n x p.2))=l:=λ{l} h=>by
 have u:=Fd (x:=x) h;apply List.ext_getElem?;intro k;have A:=congrArg (λy=>y[k]?) u;simp only[List.getElem?_map]at A ⊢
 cases B:l[k]? with
 |none=>rfl
 |some p=>
  rw[B]at A;simp only[Option.map_some,Option.some.injEq]at A ⊢;rw[A]
theorem EE{id:Nat}{x:D}:∀{l:List Ow},Gy id l=true->l.map (Ow.mapA (down id x))=l
 |[],_=>rfl
 |.var T c::l,h=>by
  simp only[Gy,Bool.and_eq_true]at h;rw[List.map_cons,EE h.2];simp only[Ow.mapA,Fd h.1]
 |.pin c::l,h=>by
  simp only[Gy,Bool.and_eq_true]at h;rw[List.map_cons,EE h.2];simp only[Ow.mapA,OA h.1]
 |.dead::l,h=>by rw[List.map_cons,EE Zdp];rfl
 |.row _ _ _::l,h=>by rw[List.map_cons,EE Zdp];rfl
 |.obj _::l,h=>by rw[List.map_cons,EE Zdp];rfl
theorem MR{id:Nat}:∀l:List D,EY id (l.map .d)=true
 |[]=>rfl
 |_::l=>MR (id:=id) l
def PlainHp(id:Nat):List Ow->Prop
 |[]=>True
 |.var _ c::l=>EY id c=true/\PlainHp id l
 |.pin c::l=>EY id (c.map (·.2))=true/\PlainHp id l
 |_::l=>PlainHp id l
theorem PlainHp.ok{id:Nat}:∀{l:List Ow},PlainHp id l->Gy id l=true
 |[],_=>rfl
 |.var T c::l,h=>by simp only[Gy,Bool.and_eq_true];exact⟨h.1,PlainHp.ok h.2⟩
 |.pin c::l,h=>by simp only[Gy,Bool.and_eq_true];exact⟨h.1,PlainHp.ok h.2⟩
 |.dead::l,h=>PlainHp.ok (l:=l) h
 |.row _ _ _::l,h=>PlainHp.ok (l:=l) h
 |.obj _::l,h=>PlainHp.ok (l:=l) h
section
variable {id:Nat} {l:List Ow}
theorem PlainHp.nil:PlainHp id []:=trivial
theorem PlainHp.var(h:PlainHp id l):PlainHp id (.var t (c.map .d)::l):=⟨MR c,h⟩
theorem PlainHp.varA{c:List AV}(G:EY id c=true)(h:PlainHp id l):PlainHp id (.var t c::l):=⟨G,h⟩
theorem PlainHp.pin{c:List (Value×AV)}(G:EY id (c.map (·.2))=true)(h:PlainHp id l):PlainHp id (.pin c::l):=⟨G,h⟩
theorem PlainHp.row{T sz:Nat}{r:List (List D)}(h:PlainHp id l):PlainHp id (.row T sz r::l):=h
end
def SE:List (Nat×AV)->List Ow->Nat->List Oper->List HR->Option AS
 |S,F,0,_,_=>some ⟨S,F⟩
 |S,F,m+1,o::L,.av r::A=>match o.dst with
  |some d=>SE ((d,r)::S) F m L A
  |none=>SE S F m L A
 |S,F,m+1,o::L,.new T Z::A=>match o.dst,GW F,exO Z with
  |some d,some k,some c=>match Fk F (.var T (c.map .d))with
   |some u=>SE ((d,.ptr k 0)::S) u m L A
   |none=>none
  |_,_,_=>none
 |_,_,_,_,_=>none
theorem NJ:∀{m:Nat} {S:List (Nat×AV)} {F:List Ow} {L:List Oper} {E:List HR} {I:AS},SE S F m L E=some I->E.length=m->I=AS.aft ⟨S,F⟩ (L.take m) E
 |0,S,F,L,E,I,h,u=>by
  obtain rfl:E=[]:=List.eq_nil_of_length_eq_zero u;cases L<;>(cases h;rfl)
 |m+1,S,F,[],[],I,h,u=>by cases u
 |m+1,S,F,[],r::E,I,h,u=>by cases r<;>cases h
 |m+1,S,F,o::L,[],I,h,u=>by cases u
 |m+1,S,F,o::L,.av r::E,I,h,u=>by
  rw[List.take_succ_cons];have u:E.length=m:=Zhe
  unfold SE at h
  cases W:o.dst with
  |some d=>
   rw[W]at h;have:=NJ h u;rw[this];simp only[AS.aft,AS.put,W]
  |none=>
   rw[W]at h;have:=NJ h u;rw[this];simp only[AS.aft,AS.put,W]
 |m+1,S,F,o::L,.new T Z::E,I,h,u=>by
  rw[List.take_succ_cons];have u:E.length=m:=Zhe
  unfold SE at h;split at h
  .rename_i d k c W B G
   split at h
   .rename_i C b
    have:=NJ h u;rw[this];have A:=Ex b;have v:=ET B;have U:=Ph G;subst A;subst v;subst U;simp only[AS.aft,AS.new,AS.put,W];congr 3;simp[Vg]
   .cases h
  .cases h
section
variable {P:Program} {s0:An} {n:Nat} {ops:Array Oper} {Q:Exit->AS->Prop} {rest:List Oper} {o:Oper} {fr:List (Nat×AV)} {hp:List Ow}
theorem AWl.q{d:Nat}{r:AV}(g:o.dst=some d)(G:o.guard=none)(b:Bz o.op=true)(W:Nat.blt d n=true)(z:Quiet P hp o (AS.arg ⟨fr,hp⟩) r)(h:AWl P s0 n ops Q rest ⟨(d,r)::fr,hp⟩):AWl P s0 n ops Q (o::rest) ⟨fr,hp⟩:=
 A01 G b (by rw[g];exact W) z (by rw[g];exact h)
theorem A5f{d:Nat}(G:o.guard=some (b,p))(N:(ops[b]?).bind (·.dst)=some T)(L:BR fr T=some (.d (ex (.bool p))))(y:Nat.blt T n=true)(A:o.dst=some d)(u:Bz o.op=true)(W:Nat.blt d n=true)(z:Quiet P hp o (AS.arg ⟨fr,hp⟩) g)(h:AWl P s0 n ops Q rest ⟨(d,g)::fr,hp⟩):AWl P s0 n ops Q (o::rest) ⟨fr,hp⟩:=
 Xe G N L ZdO u (by rw[A];exact W) z (by rw[A];exact h)
theorem A5e{d:Nat}(G:o.guard=some (b,p))(N:(ops[b]?).bind (·.dst)=some T)(L:BR fr T=some (.d (ex z)))(B:isB z p=false)(y:Nat.blt T n=true)(g:o.dst=some d)(W:Nat.blt d n=true)(h:AWl P s0 n ops Q rest ⟨(d,.d (ex undef))::fr,hp⟩):AWl P s0 n ops Q (o::rest) ⟨fr,hp⟩:=
 A00 G N L B ZdO (by rw[g];exact W) (by rw[g];exact h)
theorem AWl.al{m b k A:Nat}(E:o.op=.alloc t)(I:o.dst=some A)(F:o.guard=none)(M:Tab P t d m b z)(g:Nat.beq t 335=false)(u:Hp z.cells.toList=true)(W:Nat.blt A n=true)(G:exO z.cells.toList=some c)(B:GW hp=some k)(C:Fk hp (.var t (c.map .d))=some H)(h:AWl P s0 n ops Q rest ⟨(A,.ptr k 0)::fr,H⟩):AWl P s0 n ops Q (o::rest) ⟨fr,hp⟩:=by
 refine Xh E F M g u (by rw[I];exact W) ?_;rw[Ph G]at C;rw[Ex C,ET B]at h;simp only[AS.new,AS.put,I];exact h
theorem A5h{k u:Nat}(A:o.op=.box t x)(E:o.dst=some u)(G:o.guard=none)(C:AS.arg ⟨fr,hp⟩ x=.d (AL c))(g:Nat.beq t 335=false)(W:Nat.blt u n=true)(B:GW hp=some k)(b:Fk hp (.var t (c.map .d))=some H)(h:AWl P s0 n ops Q rest ⟨(u,.ptr k 0)::fr,H⟩):AWl P s0 n ops Q (o::rest) ⟨fr,hp⟩:=by
 refine AWl.box A G C (Nat.ne_of_beq_eq_false g) (by rw[E];exact W) ?_;rw[Ex b,ET B]at h;simp only[AS.new,AS.put,E];exact h
theorem A3w{b id m:Nat}{cells:List AV}(A:o.op=.store t x y)(G:o.guard=none)(O:o.dst=none)(C:AS.arg ⟨fr,hp⟩ x=.ptr id 0)(N:AS.arg ⟨fr,hp⟩ y=.d (AL c))(i:hp[id]? = some (.var U cells))(M:Tab P t d m b z)(s:c.length=m)(Z:cells.length=m)(u:Fu hp id (.var U (c.map .d))=some H)
  (h:AWl P s0 n ops Q rest ⟨fr,H⟩):AWl P s0 n ops Q (o::rest) ⟨fr,hp⟩:=
 Xd A G O C N i M s Z (by rw[Er u]at h;exact h)
theorem A3x{b id m off:Nat}(B:o.op=.store t x y)(E:o.guard=none)(O:o.dst=none)(C:AS.arg ⟨fr,hp⟩ x=.ptr id off)(N:AS.arg ⟨fr,hp⟩ y=.d (AL vk))(i:hp[id]? = some (.var U (c.map .d)))(M:Tab P t d m b z)(s:vk.length=m)(G:RN c off vk=some uU)(u:Fu hp id (.var U (uU.map .d))=some H)
  (h:AWl P s0 n ops Q rest ⟨fr,H⟩):AWl P s0 n ops Q (o::rest) ⟨fr,hp⟩:=by
 obtain⟨A,v⟩:=NA G;refine Qb B E O C N i M s (by rw[<-s];exact Nat.ble_eq_true_of_le v) ?_;rw[Er u,A]at h;exact h
theorem A24{b id off:Nat}(F:o.op=.store t x y)(I:o.guard=none)(O:o.dst=none)(C:AS.arg ⟨fr,hp⟩ x=.ptr id off)(N:AS.arg ⟨fr,hp⟩ y=.d r)(i:hp[id]? = some (.var U (c.map .d)))(M:Tab P t d 1 b z)(u:One hp (.d r))(G:RN c off [r]=some vk)(B:Fu hp id (.var U (vk.map .d))=some H)
  (h:AWl P s0 n ops Q rest ⟨fr,H⟩):AWl P s0 n ops Q (o::rest) ⟨fr,hp⟩:=by
 obtain⟨E,v⟩:=NA G;have A:off<c.length:=v;refine Nn F I O C N i M u A ?_;rw[Er B,E]at h
 have:QI c off [r]=c.set off r:=by
  unfold QI;exact ZgS
 rw[this]at h;exact h
theorem AWl.app{t T S q bytes id m b e:Nat}(A:o.op=.call { callee:=.builtin .append,args:=#[x,y],argTypes:=#[t,t] })(F:o.dst=some e)(G:o.guard=none)(C:AS.arg ⟨fr,hp⟩ x=.own id)(N:II hp (AS.arg ⟨fr,hp⟩ y)=some (slD S q up))(i:hp[id]? = some (.row T q vp))(M:Tab P t (.slice T) m b v)(g:Tab P T d q bytes z)(K:z.cells.size=q)(W:Nat.blt e n=true)(B:(vp.length+up.length)*bytes<=140737488355328)(I:vp.length+up.length<=4611686018427387904)
  (p:Ii id (slD T q vp) fr=some vd) (E:PlainHp id hp) (u:Fu hp id (.row T q (vp++up))=some H) (h:AWl P s0 n ops Q rest ⟨(e,.own id)::vd,H⟩):AWl P s0 n ops Q (o::rest) ⟨fr,hp⟩:=by
 refine Qe A G C N i M g K (by rw[F];exact W) B I ?_;rw[Er u,Pj p]at h;simp only[AS.appd,AS.put,F,EE E.ok];exact h
theorem A5i{t T m b q bytes k e:Nat}(C:o.op=.buildSlice t 0 #[])(E:o.dst=some e)(G:o.guard=none)(M:Tab P t (.slice T) m b v)(A:Tab P T d q bytes z)(F:Nat.beq T 335=false)(g:Nat.blt 0 q=true)(W:Nat.blt e n=true)(B:GW hp=some k)(u:Fk hp (.row T q [])=some H)(h:AWl P s0 n ops Q rest ⟨(e,.own k)::fr,H⟩):AWl P s0 n ops Q (o::rest) ⟨fr,hp⟩:=by
 refine Xf C G M A (Nat.ne_of_beq_eq_false F) (by simpa[Nat.blt_eq]using g) (by rw[E];exact W) ?_;rw[Ex u,ET B]at h;simp only[AS.new,AS.put,E];exact h
theorem A3z{t T m b q bytes k e:Nat}(A:o.op=.makeSlice t x y)(K:o.dst=some e)(E:o.guard=none)(C:AS.arg ⟨fr,hp⟩ x=.d (ex (.int .i64 0)))(N:AS.arg ⟨fr,hp⟩ y=.d (ex (.int .i64 a)))(M:Tab P t (.slice T) m b v)(F:Tab P T d q bytes z)(V:0<=a)(G:a<=1000000000)(I:Nat.ble bytes 65536=true)(L:Nat.beq T 335=false)(g:Nat.blt 0 q=true)(W:Nat.blt e n=true)(B:GW hp=some k)(u:Fk hp (.row T q [])=some H)(h:AWl P s0 n ops Q rest ⟨(e,.own k)::fr,H⟩):AWl P s0 n ops Q (o::rest) ⟨fr,hp⟩:=by
 refine A02 A E C N M F V G (Nat.le_of_ble_eq_true I) (Nat.ne_of_beq_eq_false L) (by simpa[Nat.blt_eq]using g) (by rw[K];exact W) ?_;rw[Ex u,ET B]at h;simp only[AS.new,AS.put,K];exact h
theorem AWp.dr{id:Nat}{L:List Oper}(s:DrawOk P s0 n id ud L vl Q)(l:List (List (Nat×Nat)))(j:List (List Nat))(rs:List HR)(u:(l.length==j.length&&l.length==rs.length&&Nat.ble rs.length L.length)=true)(T:Dp L (EO 0 l j)=true)(W:Gd L l.length n=true)(steps:HSteps P ⟨fr,hp⟩ rs L l rs)
  (t:SE fr hp rs.length L rs=some vc) (tail:AWl P s0 n L.toArray Q (L.drop l.length) vc):AWp P s0 n (.region id ud true) vl ⟨fr,hp⟩:=by
 refine A23 s l j rs u T W steps ?_;simp only[Bool.and_eq_true,beq_iff_eq]at u;rw[u.1.2,<-NJ t rfl,<-u.1.2];exact tail
end
section
variable {P:Program} {hp:List Ow} {o:Oper} {arg:Operand->AV}
theorem ZK(A:o.op=.load t x)(C:arg x=.d (Et T c))(M:Tab P t d n b z)(W:DS d=true)(Y:MK n c=some vk):Quiet P hp o arg (.d (AL vk)):=by
 obtain⟨u,v⟩:=KW Y;rw[u];exact Jz A C M W v
theorem Wy(A:o.op=.load t x)(C:arg x=.d (Et T c))(M:Tab P t d n b z)(W:DS d=false)(Y:atO 0 c=some r):Quiet P hp o arg (.d r):=by
 obtain⟨u,v⟩:=SD Y;rw[u];exact LC A C M W v
theorem ZL(A:o.op=.load t x)(C:arg x=.ptr m e)(i:hp[m]? = some (.var T (c.map .d)))(M:Tab P t d n b z)(W:DS d=true)(Y:A0i e n c=some vk):Quiet P hp o arg (.d (AL vk)):=by
 obtain⟨u,v⟩:=Xo Y;rw[u];exact UL A C i M W (Nat.ble_eq_true_of_le v)
theorem Wz(A:o.op=.load t x)(C:arg x=.ptr m e)(i:hp[m]? = some (.var T (c.map .d)))(M:Tab P t d n b z)(W:DS d=false)(Y:atO e c=some r):Quiet P hp o arg (.d r):=by
 obtain⟨u,v⟩:=SD Y;rw[u];exact LD A C i M W v
theorem Quiet.ext{i:Nat}(u:o.op=.extract x i)(C:arg x=.d (EX c))(Y:atO i c=some r):Quiet P hp o arg (.d r):=by
 obtain⟨d,v⟩:=SD Y;rw[d];exact Quiet.extract u C v
theorem WB(B:o.op=.fieldAddr t x n)(C:arg x=.d (Et k c))(l:Tab P t (.struct vI) b T z)(p:vI[n]? = some vP)(a:Tab P vP.type d m e v)(h:Nat.beq m 0=false)(Y:Nb vP.offset c=some vk):Quiet P hp o arg (.d (Et k vk)):=by
 obtain⟨u,A⟩:=Lk Y;rw[u];exact LG B C l p a (Nat.ne_of_beq_eq_false h)
theorem WA(u:o.op=.fieldAddr t x n)(C:arg x=.ptr k va)(l:Tab P t (.struct vI) b T z)(p:vI[n]? = some vP)(a:Tab P vP.type d m e v)(h:Nat.beq m 0=false):Quiet P hp o arg (.ptr k (va+vP.offset)):=
 SN u C l p a (Nat.ne_of_beq_eq_false h)
end
def Cq:BinOp->Int->Int->Prop
 |.eql,a,b=>a=b
 |.neq,a,b=>a≠b
 |.lss,a,b=>a<b
 |.leq,a,b=>a<=b
 |.gtr,a,b=>b<a
 |.geq,a,b=>b<=a
 |_,_,_=>False
def QX:BinOp->Bool
 |.eql |.neq |.lss |.leq |.gtr |.geq=>true
 |_=>false
section
variable {P:Program} {hp:List Ow} {o:Oper} {arg:Operand->AV}
theorem WD(u:o.op=.binOp vT t x y U)(E:QX vT=true)(C:arg x=.d (ex (.int i a)))(N:arg y=.d (ex (.int i J)))(G:Cq vT a J):Quiet P hp o arg (.d (ex (.bool true))):=by
 refine Mt u C N ?_;cases vT<;>first | (simp only[Cq]at G;simp[Up,G];done) | (simp only[Cq]at G;simp[Up];omega) | exact absurd E ZbA
theorem WE(u:o.op=.binOp vT t x y U)(E:QX vT=true)(C:arg x=.d (ex (.int i a)))(N:arg y=.d (ex (.int i J)))(G:¬Cq vT a J):Quiet P hp o arg (.d (ex (.bool false))):=by
 refine Mt u C N ?_;cases vT<;>first | (simp only[Cq]at G;simp[Up,G];done) | (simp only[Cq]at G;simp[Up];omega) | exact absurd E ZbA
theorem SM(u:o.op=.indexAddr t x y)(C:II hp (arg x)=some (slD k va ((vM::vE).map vY)))(N:arg y=.d (ex (.int i 0)))(M:Tab P t (.slice n) b T z)(a:Tab P n d m e v)(w:m=va):Quiet P hp o arg (.d (Et k (vY vM))):=
 Quiet.index (P:=P) (hp:=hp) u C N M a w Zbx ZbK
end
theorem GV(f:j->List D)(l:List j)(a:j):l.map f++[f a]=(l++[a]).map f:=by simp
theorem A5g{s0:An}{rest:List Oper}{o:Oper}(g:o.dst=some b)(G:o.guard=none)(B:Bz o.op=true)(W:Nat.blt b n=true)(h:∃r,Quiet P H o (AS.arg ⟨vd,H⟩) r/\AWl P s0 n ud vl rest ⟨(b,r)::vd,H⟩):AWl P s0 n ud vl (o::rest) ⟨vd,H⟩:=by
 obtain⟨r,u,A⟩:=h;exact AWl.q g G B W u A
theorem A3y{s0:An}{rest:List Oper}{o:Oper}(G:o.guard=some (T,p))(N:(ud[T]?).bind (·.dst)=some m)(L:BR vd m=some (.d (ex (.bool p))))(y:Nat.blt m n=true)(g:o.dst=some b)(B:Bz o.op=true)(W:Nat.blt b n=true)(h:∃r,Quiet P H o (AS.arg ⟨vd,H⟩) r/\AWl P s0 n ud vl rest ⟨(b,r)::vd,H⟩):AWl P s0 n ud vl (o::rest) ⟨vd,H⟩:=by
 obtain⟨r,u,A⟩:=h;exact A5f G N L y g B W u A
def QJ:List HR->HR->Option (List HR)
 |[],x=>some [x]
 |o::l,x=>match QJ l x with
  |some r=>some (o::r)
  |none=>none
theorem Tr:∀{l:List HR} {x:HR} {r:List HR},QJ l x=some r->r=l++[x]
 |[],x,r,h=>by cases h;rfl
 |o::l,x,r,h=>by
  unfold QJ at h;split at h
  .rename_i I d
   cases h;rw[Tr d];rfl
  .cases h
def HS(P:Program)(f:AS)(K:List HR->Prop):List HR->List Oper->List (List (Nat×Nat))->Prop
 |Z,_,[]=>K Z
 |Z,o::L,e::l=>∃r,HStep P f Z e o r/\∃u,QJ Z r=some u/\HS P f K u L l
 |_,[],_::_=>False
def Lj:Nat->List Oper->List (List (Nat×Nat))->Bool
 |_,_,[]=>true
 |i,o::L,e::l=>e.all (λp=>Nat.blt p.2 i)&&(match o.guard with |some (j,_)=>Nat.blt j i |none=>true)&&Lj (i+1) L l
 |_,[],_::_=>false
theorem Rm{Z w:List HR}(h:∀p∈vC,p.2<Z.length):Eo vc (Z++w) vC=Eo vc Z vC:=by
 funext x
 cases x with
 |tmp t=>
  show(match vC.find? (λp=>p.1==t)with
   |some p=>match (Z++w)[p.2]? with
    |some h=>h.val
    |none=>.d Cw
   |none=>_)=(match vC.find? (λp=>p.1==t)with
   |some p=>match Z[p.2]? with
    |some h=>h.val
    |none=>.d Cw
   |none=>_)
  cases u:vC.find? (λp=>p.1==t)with
  |none=>rfl
  |some p=>
   simp only;rw[List.getElem?_append_left (h p (List.mem_of_find?_eq_some u))]
 |const v=>rfl
 |global g=>rfl
 |func f=>rfl
theorem HStep.more{acc w:List HR}{o:Oper}{r:HR}(h:HStep P vc acc vC o r)(a:∀p∈vC,p.2<acc.length)(G:∀j b,o.guard=some (j,b)->j<acc.length):HStep P vc (acc++w) vC o r:=by
 cases r with
 |av r=>
  rcases h with⟨u,A⟩ | ⟨j,b,c,u,A,h3⟩
  .exact .inl ⟨u,by rw[Rm a];exact A⟩
  .refine .inr ⟨j, b, c, u, by rw [List.getElem?_append_left (G j b u)]; exact A, ?_⟩
   rw[Rm a];exact h3
 |new T Z=>exact h
theorem UP{P:Program}{σ:AS}{K:List HR->Prop}:∀{es:List (List (Nat×Nat))} {L:List Oper} {acc:List HR},Lj acc.length L es=true->HS P σ K acc L es->∃more,more.length=es.length/\HSteps P σ (acc++more) L es more/\K (acc++more)
 | [],L,acc,_,h=>by
  refine ⟨[],rfl,HSteps.nil,?_⟩
  rw [List.append_nil]
  cases L<;>exact h
 | e::es,[],acc,he,h=>by cases he
 | e::es,o::L,acc,he,h=>by
  obtain ⟨r,h1,acc',h2,h3⟩:=h
  have e1:=Tr h2
  subst e1
  simp only [Lj,Bool.and_eq_true] at he
  obtain ⟨⟨he1,he2⟩,he3⟩:=he
  obtain ⟨more,h4,h5,h6⟩:=UP (acc:=acc++[r]) (by simpa using he3) h3
  rw [List.append_assoc,List.singleton_append] at h5 h6
  refine ⟨r::more,by simp [h4],⟨h1.more (λp hp=>?_) λj b hj=>?_,h5⟩,h6⟩
  .have:=List.all_eq_true.1 he1 p hp
   simpa [Nat.blt_eq] using this
  .rw [hj] at he2
   simpa [Nat.blt_eq] using he2
theorem Yh{P:Program}{s0:An}{n:Nat}{Q Q0:Exit->AS->Prop}{fr:List (Nat×AV)}{hp:List Ow}{id:Nat}{L0:Array Oper}{L:List Oper}(hm:DrawOk P s0 n id L0 L Q0 Q)(es:List (List (Nat×Nat)))(bs:List (List Nat))(hlen:(es.length==bs.length&&Nat.ble es.length L.length)=true)(hok:Dp L (EO 0 es bs)=true)(hd:Gd L es.length n=true)(hlt:Lj 0 L es=true)
  (h:HS P ⟨fr,hp⟩ (λrs=>∃τ,SE fr hp es.length L rs=some τ/\AWl P s0 n L.toArray Q (L.drop es.length) τ) [] L es):AWp P s0 n (.region id L0 true) Q0 ⟨fr,hp⟩:=by
 obtain ⟨rs,h1,h2,τ,h3,h4⟩:=UP (acc:=[]) hlt h
 simp only [List.nil_append] at h2 h3
 simp only [Bool.and_eq_true,beq_iff_eq] at hlen
 exact AWp.dr hm es bs rs (by simp only [Bool.and_eq_true,beq_iff_eq];exact ⟨⟨hlen.1,h1.symm⟩,by rw [h1];exact hlen.2⟩) hok hd h2 (by rw [h1];exact h3) h4
section
variable {P:Program} {hp:List Ow} {arg:Operand->AV} {dd:Option Tmp} {ty:TypeId} {ps:String} {af:Array Edge} {gd:Option (Nat×Bool)}
theorem WI(C:II hp (arg x)=some (slD m e vp))(M:Tab P t (.slice n) b T z):Quiet P hp ⟨dd,.call { callee:=.builtin .len,args:=#[x],argTypes:=#[t] },ty,ps,af,gd⟩ arg (.d (ex (.int .i64 vp.length))):=Quiet.len (o:=⟨dd,.call { callee:=.builtin .len,args:=#[x],argTypes:=#[t] },ty,ps,af,gd⟩) rfl C M
theorem Bh{e n b T q:Nat}{f:j->List D}{l:List j}(C:II hp (arg x)=some (slD T q (l.map f)))(M:Tab P t (.slice e) n b z):Quiet P hp ⟨dd,.call { callee:=.builtin .len,args:=#[x],argTypes:=#[t] },ty,ps,af,gd⟩ arg (.d (ex (.int .i64 (l.length:Nat)))):=Wx (o:=⟨dd,.call { callee:=.builtin .len,args:=#[x],argTypes:=#[t] },ty,ps,af,gd⟩) rfl C M
theorem Kc(C:II hp (arg x)=some (slD k va ((vM::vE).map vY)))(N:arg y=.d (ex (.int i 0)))(M:Tab P t (.slice n) b T z)(a:Tab P n d m e v)(w:m=va):Quiet P hp ⟨dd,.indexAddr t x y,ty,ps,af,gd⟩ arg (.d (Et k (vY vM))):=SM (o:=⟨dd,.indexAddr t x y,ty,ps,af,gd⟩) rfl C N M a w
theorem Ch[Inhabited j]{e n b u A T q k:Nat}{l:List j}(C:II hp (arg x)=some (slD T q (l.map vY)))(N:arg y=.d (ex (.int i (k:Nat))))(M:Tab P t (.slice e) n b z)(a:Tab P e d u A v)(w:u=q)(B:k<l.length):Quiet P hp ⟨dd,.indexAddr t x y,ty,ps,af,gd⟩ arg (.d (Et T (vY (l.getD k default)))):=SL (o:=⟨dd,.indexAddr t x y,ty,ps,af,gd⟩) rfl C N M a w B
theorem MC{T U:TypeId}(C:arg x=.d (ex (.int .i64 a)))(N:arg y=.d (ex (.int .i64 J)))(u:-9223372036854775808<=a+J)(A:a+J<=9223372036854775807):Quiet P hp ⟨dd,.binOp .add T x y U,ty,ps,af,gd⟩ arg (.d (ex (.int .i64 (a+J)))):=Quiet.add (o:=⟨dd,.binOp .add T x y U,ty,ps,af,gd⟩) rfl C N u A
theorem Mu(C:arg x=.d (ex (.int .i64 a)))(N:arg y=.d (ex (.int .i64 J)))(u:-9223372036854775808<=a-J)(A:a-J<=9223372036854775807):Quiet P hp ⟨dd,.binOp .sub t x y U,ty,ps,af,gd⟩ arg (.d (ex (.int .i64 (a-J)))):=Quiet.sub (o:=⟨dd,.binOp .sub t x y U,ty,ps,af,gd⟩) rfl C N u A
theorem JV(C:arg x=.d (ex (.int .i64 (n:Nat))))(N:arg y=.d (ex (.int .i64 1)))(u:(n:Int)<9223372036854775807):Quiet P hp ⟨dd,.binOp .add t x y U,ty,ps,af,gd⟩ arg (.d (ex (.int .i64 ((n+1:Nat):Int)))):=Wv (o:=⟨dd,.binOp .add t x y U,ty,ps,af,gd⟩) rfl C N u
theorem WF(C:arg x=.d (ex (.int .i64 a)))(N:arg y=.d (ex (.int .i64 J)))(g:0<=a)(u:a<=9223372036854775807)(E:0<J):Quiet P hp ⟨dd,.binOp .quo t x y U,ty,ps,af,gd⟩ arg (.d (ex (.int .i64 (a/J)))):=Quiet.quo (o:=⟨dd,.binOp .quo t x y U,ty,ps,af,gd⟩) rfl C N g u E
theorem PM(C:arg x=.d (ex (.int i a)))(N:arg y=.d (ex (.int i J)))(g:0<=a)(E:0<J):Quiet P hp ⟨dd,.binOp .rem t x y U,ty,ps,af,gd⟩ arg (.d (ex (.int i (a%J)))):=Quiet.rem (o:=⟨dd,.binOp .rem t x y U,ty,ps,af,gd⟩) rfl C N g E
theorem NL(C:arg x=.d (ex (.int i a)))(N:arg y=.d (ex (.int i J)))(E:J≠0):Quiet P hp ⟨dd,.binOp .rem t x y U,ty,ps,af,gd⟩ arg (.d (ex (.int i (a.tmod J)))):=Ww (o:=⟨dd,.binOp .rem t x y U,ty,ps,af,gd⟩) rfl C N E
theorem SU(C:arg x=.d (ex (.int i a)))(N:arg y=.d (ex (.int i J)))(G:Up vT a J=some p):Quiet P hp ⟨dd,.binOp vT t x y U,ty,ps,af,gd⟩ arg (.d (ex (.bool p))):=Mt (o:=⟨dd,.binOp vT t x y U,ty,ps,af,gd⟩) rfl C N G
theorem Fp(E:QX vT=true)(C:arg x=.d (ex (.int i a)))(N:arg y=.d (ex (.int i J)))(G:Cq vT a J):Quiet P hp ⟨dd,.binOp vT t x y U,ty,ps,af,gd⟩ arg (.d (ex (.bool true))):=WD (o:=⟨dd,.binOp vT t x y U,ty,ps,af,gd⟩) rfl E C N G
theorem GH(E:QX vT=true)(C:arg x=.d (ex (.int i a)))(N:arg y=.d (ex (.int i J)))(G:¬Cq vT a J):Quiet P hp ⟨dd,.binOp vT t x y U,ty,ps,af,gd⟩ arg (.d (ex (.bool false))):=WE (o:=⟨dd,.binOp vT t x y U,ty,ps,af,gd⟩) rfl E C N G
theorem SQ(C:arg x=.d (ex (.bool p))):Quiet P hp ⟨dd,.unOp .not t x,ty,ps,af,gd⟩ arg (.d (ex (.bool (!p)))):=Quiet.not (o:=⟨dd,.unOp .not t x,ty,ps,af,gd⟩) rfl C
theorem Gj(C:arg y=g)(G:arg x=.d (ex (.bool true))):Quiet P hp ⟨dd,.pick x y vX,ty,ps,af,gd⟩ arg g:=Nl (o:=⟨dd,.pick x y vX,ty,ps,af,gd⟩) rfl C G
theorem In(N:arg vX=g)(G:arg x=.d (ex (.bool false))):Quiet P hp ⟨dd,.pick x y vX,ty,ps,af,gd⟩ arg g:=Nm (o:=⟨dd,.pick x y vX,ty,ps,af,gd⟩) rfl N G
theorem NO{k S:IntKind}(C:arg x=.d (ex (.int k a)))(l:Tab P t d n b z)(g:Tab P U (.int S) T m v):Quiet P hp ⟨dd,.convert t U x,ty,ps,af,gd⟩ arg (.d (ex (.int S (S.wrap a)))):=PK (o:=⟨dd,.convert t U x,ty,ps,af,gd⟩) rfl C l g
theorem NN(C:arg x=.d (Et k c))(l:Tab P t (.struct vI) b T z)(p:vI[n]? = some vP)(a:Tab P vP.type d m e v)(h:Nat.beq m 0=false)(Y:Nb vP.offset c=some vk):Quiet P hp ⟨dd,.fieldAddr t x n,ty,ps,af,gd⟩ arg (.d (Et k vk)):=WB (o:=⟨dd,.fieldAddr t x n,ty,ps,af,gd⟩) rfl C l p a h Y
theorem GG(C:arg x=.ptr k va)(l:Tab P t (.struct vI) b T z)(p:vI[n]? = some vP)(a:Tab P vP.type d m e v)(h:Nat.beq m 0=false):Quiet P hp ⟨dd,.fieldAddr t x n,ty,ps,af,gd⟩ arg (.ptr k (va+vP.offset)):=WA (o:=⟨dd,.fieldAddr t x n,ty,ps,af,gd⟩) rfl C l p a h
theorem Mx{ds r:List D}(C:arg x=.ptr m e)(i:hp[m]? = some (.var T (ds.map .d)))(M:Tab P t d n b z)(W:DS d=true)(Y:A0i e n ds=some r):Quiet P hp ⟨dd,.load t x,ty,ps,af,gd⟩ arg (.d (AL r)):=ZL (o:=⟨dd,.load t x,ty,ps,af,gd⟩) rfl C i M W Y
theorem GF{ds:List D}(C:arg x=.ptr m e)(i:hp[m]? = some (.var T (ds.map .d)))(M:Tab P t d n b z)(W:DS d=false)(Y:atO e ds=some r):Quiet P hp ⟨dd,.load t x,ty,ps,af,gd⟩ arg (.d r):=Wz (o:=⟨dd,.load t x,ty,ps,af,gd⟩) rfl C i M W Y
theorem Io{n b T id off:Nat}{r:AV}(C:arg x=.ptr id off)(i:hp[id]? = some (.var T o))(M:Tab P t d n b z)(W:DS d=false)(G:o[off]? = some r):Quiet P hp ⟨dd,.load t x,ty,ps,af,gd⟩ arg r:=LA (o:=⟨dd,.load t x,ty,ps,af,gd⟩) rfl C i M W G
theorem JZ(C:arg x=.d (Et T c))(M:Tab P t d n b z)(W:DS d=true)(h:c.length=n):Quiet P hp ⟨dd,.load t x,ty,ps,af,gd⟩ arg (.d (AL c)):=SK (o:=⟨dd,.load t x,ty,ps,af,gd⟩) rfl C M W h
theorem PO(C:arg x=.d (Et T c))(M:Tab P t d n b z)(W:DS d=true)(Y:MK n c=some vk):Quiet P hp ⟨dd,.load t x,ty,ps,af,gd⟩ arg (.d (AL vk)):=ZK (o:=⟨dd,.load t x,ty,ps,af,gd⟩) rfl C M W Y
theorem FU(C:arg x=.d (Et T c))(M:Tab P t d n b z)(W:DS d=false)(Y:atO 0 c=some r):Quiet P hp ⟨dd,.load t x,ty,ps,af,gd⟩ arg (.d r):=Wy (o:=⟨dd,.load t x,ty,ps,af,gd⟩) rfl C M W Y
theorem My(C:arg x=.d (AL c))(l:Tab P t (.struct vI) b T z)(p:vI[n]? = some vP)(a:Tab P vP.type d m e v)(W:DS d=false)(h:vP.offset<c.length):Quiet P hp ⟨dd,.field t x n,ty,ps,af,gd⟩ arg (.d (Df c vP.offset)):=SO (o:=⟨dd,.field t x n,ty,ps,af,gd⟩) rfl C l p a W h
theorem A4Y{ds:List D}{k:IntKind}{i:Int}(C:arg x=.d (AL ds))(N:arg y=.d (ex (.int k i)))(M:Tab P t (.array e n) b T z)(a:Tab P n d 1 m v)(W:DS d=false)(g:0<=i)(K:i<e)(h:i.toNat<ds.length):Quiet P hp ⟨dd,.index t x y,ty,ps,af,gd⟩ arg (.d (Df ds i.toNat)):=Ru (o:=⟨dd,.index t x y,ty,ps,af,gd⟩) rfl C N M a W g K h
theorem WJ(C:arg x=.d (EX c))(Y:atO n c=some r):Quiet P hp ⟨dd,.extract x n,ty,ps,af,gd⟩ arg (.d r):=Quiet.ext (o:=⟨dd,.extract x n,ty,ps,af,gd⟩) rfl C Y
theorem A1I(M:Tab P t (.struct vI) n b z)(E:FieldsT P vI.toList vC)(u:Hp z.cells.toList=true)(Y:PartsA hp arg ue uv)(p:GY (λi=>vC[i]?) (Sz z.cells.toList) uv=some c):Quiet P hp ⟨dd,.build t ue.toArray,ty,ps,af,gd⟩ arg (.d (AL c)):=Quiet.build (o:=⟨dd,.build t ue.toArray,ty,ps,af,gd⟩) rfl M E u Y p
theorem UN(M:Tab P t (.array n U) b T z)(a:Tab P U d m e v)(u:Hp z.cells.toList=true)(Y:PartsA hp arg ue uv)(p:GY (λi=>some (i*m,m)) (Sz z.cells.toList) uv=some c):Quiet P hp ⟨dd,.build t ue.toArray,ty,ps,af,gd⟩ arg (.d (AL c)):=PL (o:=⟨dd,.build t ue.toArray,ty,ps,af,gd⟩) rfl M a u Y p
theorem Kt{len n b e x:Nat}{parts:List (Nat×Operand)}{r:List (Nat×List D)}(M:Tab P t (.slice U) n b z)(a:Tab P U d e x v)(o:0<len)(h:0<e)(A:v.cells.size=e)(E:len*e<=16777216)(u:Hp v.cells.toList=true)(Y:PartsA hp arg parts r)(p:GY (λi=>some (i*e,e)) (List.replicate (len*e) Cw) r=some c):Quiet P hp ⟨dd,.buildSlice t len parts.toArray,ty,ps,af,gd⟩ arg (.d (slD U e (Hc e len c))):=Quiet.buildSlice (o:=⟨dd,.buildSlice t len parts.toArray,ty,ps,af,gd⟩) rfl M a o h A E u Y p
theorem WH(C:arg x=.d (ex (.int i a)))(N:arg y=.d (ex (.int i J))):Quiet P hp ⟨dd,.call { callee:=.builtin .max,args:=#[x,y],argTypes:=vs },ty,ps,af,gd⟩ arg (.d (ex (.int i (Max.max a J)))):=Quiet.max (o:=⟨dd,.call { callee:=.builtin .max,args:=#[x,y],argTypes:=vs },ty,ps,af,gd⟩) rfl C N
theorem WG(C:arg x=.d (ex (.int .u8 (n:Nat))))(N:arg y=.d (ex (.int .u8 (b:Nat))))(u:n<256)(E:b<256):Quiet P hp ⟨dd,.binOp .or t x y U,ty,ps,af,gd⟩ arg (.d (ex (.int .u8 ((n ||| b:Nat):Int)))):=ZJ (o:=⟨dd,.binOp .or t x y U,ty,ps,af,gd⟩) rfl C N u E
theorem EL(p:arg x=.d (ex (.func (.func vb) #[] #[])))(G:Abs P vb c r)(t:ArgsLe hp arg vJ c):Quiet P hp ⟨dd,.call { callee:=.value x,args:=vJ.toArray,argTypes:=vs },ty,ps,af,gd⟩ arg (.d r):=Quiet.call (o:=⟨dd,.call { callee:=.value x,args:=vJ.toArray,argTypes:=vs },ty,ps,af,gd⟩) rfl p G t
theorem Bb{r:AV}(C:arg x=r):Quiet P hp ⟨dd,.move x,ty,ps,af,gd⟩ arg r:=Quiet.move (.inl rfl) C
theorem Dh(C:arg x=g):Quiet P hp ⟨dd,.assign x,ty,ps,af,gd⟩ arg g:=Quiet.move (.inr rfl) C
end
section
variable {P:Program} {s0:An} {n:Nat} {ops:Array Oper} {Q:Exit->AS->Prop} {rest:List Oper} {fr:List (Nat×AV)} {hp:List Ow} {ty:TypeId} {ps:String} {af:Array Edge}
theorem A5d{m b k A:Nat}(M:Tab P t d m b z)(g:Nat.beq t 335=false)(u:Hp z.cells.toList=true)(W:Nat.blt A n=true)(G:exO z.cells.toList=some c)(B:GW hp=some k)(C:Fk hp (.var t (c.map .d))=some H)(h:AWl P s0 n ops Q rest ⟨(A,.ptr k 0)::fr,H⟩):AWl P s0 n ops Q (⟨some A,.alloc t,ty,ps,af,none⟩::rest) ⟨fr,hp⟩:=AWl.al (o:=⟨some A,.alloc t,ty,ps,af,none⟩) rfl rfl rfl M g u W G B C h
theorem A5c{k u:Nat}(C:AS.arg ⟨fr,hp⟩ x=.d (AL c))(g:Nat.beq t 335=false)(W:Nat.blt u n=true)(B:GW hp=some k)(b:Fk hp (.var t (c.map .d))=some H)(h:AWl P s0 n ops Q rest ⟨(u,.ptr k 0)::fr,H⟩):AWl P s0 n ops Q (⟨some u,.box t x,ty,ps,af,none⟩::rest) ⟨fr,hp⟩:=A5h (o:=⟨some u,.box t x,ty,ps,af,none⟩) rfl rfl rfl C g W B b h
theorem A3s{b id m:Nat}(C:AS.arg ⟨fr,hp⟩ x=.ptr id 0)(N:AS.arg ⟨fr,hp⟩ y=.d (AL c))(i:hp[id]? = some (.var U o))(M:Tab P t d m b z)(s:c.length=m)(Z:o.length=m)(u:Fu hp id (.var U (c.map .d))=some H)(h:AWl P s0 n ops Q rest ⟨fr,H⟩):AWl P s0 n ops Q (⟨none,.store t x y,ty,ps,af,none⟩::rest) ⟨fr,hp⟩:=A3w (o:=⟨none,.store t x y,ty,ps,af,none⟩) rfl rfl rfl C N i M s Z u h
theorem A3t{b id m off:Nat}(C:AS.arg ⟨fr,hp⟩ x=.ptr id off)(N:AS.arg ⟨fr,hp⟩ y=.d (AL vk))(i:hp[id]? = some (.var U (c.map .d)))(M:Tab P t d m b z)(s:vk.length=m)(G:RN c off vk=some uU)(u:Fu hp id (.var U (uU.map .d))=some H)(h:AWl P s0 n ops Q rest ⟨fr,H⟩):AWl P s0 n ops Q (⟨none,.store t x y,ty,ps,af,none⟩::rest) ⟨fr,hp⟩:=A3x (o:=⟨none,.store t x y,ty,ps,af,none⟩) rfl rfl rfl C N i M s G u h
theorem JF{b id off:Nat}(C:AS.arg ⟨fr,hp⟩ x=.ptr id off)(N:AS.arg ⟨fr,hp⟩ y=.d r)(i:hp[id]? = some (.var U (c.map .d)))(M:Tab P t d 1 b z)(u:One hp (.d r))(G:RN c off [r]=some vk)(A:Fu hp id (.var U (vk.map .d))=some H)(h:AWl P s0 n ops Q rest ⟨fr,H⟩):AWl P s0 n ops Q (⟨none,.store t x y,ty,ps,af,none⟩::rest) ⟨fr,hp⟩:=A24 (o:=⟨none,.store t x y,ty,ps,af,none⟩) rfl rfl rfl C N i M u G A h
theorem DP{t T S q bytes id m b e:Nat}{A r2:List (List D)}(C:AS.arg ⟨fr,hp⟩ x=.own id)(N:II hp (AS.arg ⟨fr,hp⟩ y)=some (slD S q r2))(i:hp[id]? = some (.row T q A))(M:Tab P t (.slice T) m b v)(g:Tab P T d q bytes z)(G:z.cells.size=q)(W:Nat.blt e n=true)(B:(A.length+r2.length)*bytes<=140737488355328)(F:A.length+r2.length<=4611686018427387904)(p:Ii id (slD T q A) fr=some vd)(E:PlainHp id hp)(u:Fu hp id (.row T q (A++r2))=some H)(h:AWl P s0 n ops Q rest ⟨(e,.own id)::vd,H⟩):AWl P s0 n ops Q (⟨some e,.call { callee:=.builtin .append,args:=#[x,y],argTypes:=#[t,t] },ty,ps,af,none⟩::rest) ⟨fr,hp⟩:=AWl.app (o:=⟨some e,.call { callee:=.builtin .append,args:=#[x,y],argTypes:=#[t,t] },ty,ps,af,none⟩) rfl rfl rfl C N i M g G W B F p E u h
theorem Tc{t T m b q bytes k e:Nat}(M:Tab P t (.slice T) m b v)(A:Tab P T d q bytes z)(C:Nat.beq T 335=false)(g:Nat.blt 0 q=true)(W:Nat.blt e n=true)(B:GW hp=some k)(u:Fk hp (.row T q [])=some H)(h:AWl P s0 n ops Q rest ⟨(e,.own k)::fr,H⟩):AWl P s0 n ops Q (⟨some e,.buildSlice t 0 #[],ty,ps,af,none⟩::rest) ⟨fr,hp⟩:=A5i (o:=⟨some e,.buildSlice t 0 #[],ty,ps,af,none⟩) rfl rfl rfl M A C g W B u h
theorem A3u{t T m b q bytes k e:Nat}(C:AS.arg ⟨fr,hp⟩ x=.d (ex (.int .i64 0)))(N:AS.arg ⟨fr,hp⟩ y=.d (ex (.int .i64 a)))(M:Tab P t (.slice T) m b v)(A:Tab P T d q bytes z)(V:0<=a)(G:a<=1000000000)(E:Nat.ble bytes 65536=true)(F:Nat.beq T 335=false)(g:Nat.blt 0 q=true)(W:Nat.blt e n=true)(B:GW hp=some k)(u:Fk hp (.row T q [])=some H)(h:AWl P s0 n ops Q rest ⟨(e,.own k)::fr,H⟩):AWl P s0 n ops Q (⟨some e,.makeSlice t x y,ty,ps,af,none⟩::rest) ⟨fr,hp⟩:=A3z (o:=⟨some e,.makeSlice t x y,ty,ps,af,none⟩) rfl rfl rfl C N M A V G E F g W B u h
theorem CA{d:Nat}(b:Bz ug=true)(W:Nat.blt d n=true)(h:∃r,Quiet P hp ⟨some d,ug,ty,ps,af,none⟩ (AS.arg ⟨fr,hp⟩) r/\AWl P s0 n ops Q rest ⟨(d,r)::fr,hp⟩):AWl P s0 n ops Q (⟨some d,ug,ty,ps,af,none⟩::rest) ⟨fr,hp⟩:=A5g rfl rfl b W h
theorem MF{d:Nat}(N:(ops[b]?).bind (·.dst)=some T)(L:BR fr T=some (.d (ex (.bool p))))(y:Nat.blt T n=true)(u:Bz ug=true)(W:Nat.blt d n=true)(h:∃r,Quiet P hp ⟨some d,ug,ty,ps,af,some (b,p)⟩ (AS.arg ⟨fr,hp⟩) r/\AWl P s0 n ops Q rest ⟨(d,r)::fr,hp⟩):AWl P s0 n ops Q (⟨some d,ug,ty,ps,af,some (b,p)⟩::rest) ⟨fr,hp⟩:=A3y rfl N L y rfl u W h
theorem Qa{d:Nat}(N:(ops[b]?).bind (·.dst)=some T)(L:BR fr T=some (.d (ex z)))(B:isB z p=false)(y:Nat.blt T n=true)(W:Nat.blt d n=true)(h:AWl P s0 n ops Q rest ⟨(d,.d (ex undef))::fr,hp⟩):AWl P s0 n ops Q (⟨some d,ug,ty,ps,af,some (b,p)⟩::rest) ⟨fr,hp⟩:=A5e rfl N L B y rfl W h
end
def plO:List Field->Option (List (Nat×Nat))
 |[]=>some []
 |f::l=>match QD Xk f.type with
  |some p=>match plO l with
   |some r=>some ((f.offset,p.n)::r)
   |none=>none
  |none=>none
theorem A0A:∀{l:List Field} {r:List (Nat×Nat)},plO l=some r->FieldsT Tryz.prog l r
 |[],r,h=>by cases h;exact FieldsT.nil
 |f::l,r,h=>by
  unfold plO at h
  cases M:QD Xk f.type with
  |none=>rw[M]at h;cases h
  |some p=>
   rw[M]at h;simp only at h
   cases Y:plO l with
   |none=>rw[Y]at h;cases h
   |some I=>
    rw[Y]at h;cases h;obtain⟨u,A⟩:=Oa Xn M;rw[u]at A;exact FieldsT.cons A (A0A Y)
def PartOk(F:List Ow)(H:AV)(l:List D):Prop:=H=.d (AL l)\/∃y,II F H=some y/\One F H/\l=[y]
theorem As(h:g=.d (AL c)):PartOk H g c:=.inl h
theorem PartOk.one(h:II H g=some r)(u:One H g):PartOk H g [r]:=.inr ⟨r,h,u,rfl⟩
def Xp:List (Nat×List D)->Nat×List D->Option (List (Nat×List D))
 |[],x=>some [x]
 |o::l,x=>match Xp l x with
  |some r=>some (o::r)
  |none=>none
theorem Tq:∀{l:List (Nat×List D)} {x:Nat×List D} {r:List (Nat×List D)},Xp l x=some r->r=l++[x]
 |[],x,r,h=>by cases h;rfl
 |o::l,x,r,h=>by
  unfold Xp at h;split at h
  .rename_i I d
   cases h;rw[Tq d];rfl
  .cases h
def PC(F:List Ow)(arg:Operand->AV)(K:List (Nat×List D)->Prop):List (Nat×List D)->List (Nat×Operand)->Prop
 |Z,[]=>K Z
 |Z,(i,x)::l=>∃u,PartOk F (arg x) u/\∃A,Xp Z (i,u)=some A/\PC F arg K A l
theorem LL{F:List Ow}{arg:Operand->AV}{K:List (Nat×List D)->Prop}:∀{l:List (Nat×Operand)} {Z:List (Nat×List D)},PC F arg K Z l->∃r,PartsA F arg l r/\K (Z++r)
 |[],Z,h=>⟨[],PartsA.nil,by rw[List.append_nil];exact h⟩
 |(i,x)::l,Z,⟨B,u,C,A,I⟩=>by
  have e:=Tq A;subst e;obtain⟨r,V,m⟩:=LL I;rw[List.append_assoc,List.singleton_append]at m;exact⟨(i,B)::r,⟨rfl,u,V⟩,m⟩
def Re(place:Nat->Option (Nat×Nat)):List D->List (Nat×List D)->Option (List D)
 |R,[]=>some R
 |R,(i,l)::r=>match place i with
  |some (off,size)=>bif Nat.beq l.length size then match RN R off l with
   |some a=>Re place a r
   |none=>none else none
  |none=>none
theorem Lh{place:Nat->Option (Nat×Nat)}:∀{r:List (Nat×List D)} {R x:List D},Re place R r=some x->GY place R r=some x
 |[],R,x,h=>h
 |(i,l)::r,R,x,h=>by
  unfold Re at h;unfold GY
  cases F:place i with
  |none=>rw[F]at h;cases h
  |some q=>
   obtain⟨off,size⟩:=q;rw[F]at h;simp only at h ⊢
   cases E:Nat.beq l.length size with
   |false=>rw[E]at h;cases h
   |true=>
    rw[E]at h;simp only[cond_true]at h
    cases b:RN R off l with
    |none=>rw[b]at h;cases h
    |some a=>
     rw[b]at h;obtain⟨d,v⟩:=NA b;have U:=Nat.eq_of_beq_eq_true E;have u:Nat.ble (off+size) R.length=true:=Nat.ble_eq_true_of_le Zbx;rw[u,<-d];exact Lh h
section
variable {P:Program} {hp:List Ow} {arg:Operand->AV} {dd:Option Tmp} {ty:TypeId} {ps:String} {af:Array Edge} {gd:Option (Nat×Bool)}
theorem AP{R:AV->Prop}(M:Tab Tryz.prog t (.struct vI) n b z)(E:plO vI.toList=some vC)(u:Hp z.cells.toList=true)(C:exO z.cells.toList=some c)(h:PC hp arg (λr=>∃B,Re (λi=>vC[i]?) c r=some B/\R (.d (AL B))) [] ue):∃r,Quiet Tryz.prog hp ⟨dd,.build t ue.toArray,ty,ps,af,gd⟩ arg r/\R r:=by
 obtain⟨r,A,B,I,V⟩:=LL h;rw[Ph C]at I;exact⟨_,A1I M (A0A E) u A (Lh I),V⟩
theorem ME{len n b e x:Nat}{R:AV->Prop}(M:Tab P t (.array len U) n b z)(a:Tab P U d e x v)(u:Hp z.cells.toList=true)(C:exO z.cells.toList=some c)(h:PC hp arg (λr=>∃B,Re (λi=>some (i*e,e)) c r=some B/\R (.d (AL B))) [] ue):∃r,Quiet P hp ⟨dd,.build t ue.toArray,ty,ps,af,gd⟩ arg r/\R r:=by
 obtain⟨r,A,B,I,V⟩:=LL h;rw[Ph C]at I;exact⟨_,UN M a u A (Lh I),V⟩
theorem De{len n b e x:Nat}{R:AV->Prop}(M:Tab P t (.slice U) n b z)(a:Tab P U d e x v)(o:Nat.blt 0 len=true)(C:Nat.blt 0 e=true)(E:v.cells.size=e)(F:Nat.ble (len*e) 16777216=true)(u:Hp v.cells.toList=true)(h:PC hp arg (λr=>∃B,Re (λi=>some (i*e,e)) (List.replicate (len*e) Cw) r=some B/\R (.d (slD U e (Hc e len B)))) [] ue):∃r,Quiet P hp ⟨dd,.buildSlice t len ue.toArray,ty,ps,af,gd⟩ arg r/\R r:=by
 obtain⟨r,A,B,I,V⟩:=LL h;exact⟨_,Kt M a (by simpa[Nat.blt_eq]using o) (by simpa[Nat.blt_eq]using C) E (Nat.le_of_ble_eq_true F) u A (Lh I),V⟩
theorem CF(C:arg x=.d (AL c))(M:Tab P t (.slice U) n b z)(a:Tab P U d T m v)(L:c.length=T)(B:Nat.blt 0 T=true)(F:v.cells.size=T)(G:Nat.ble T 16777216=true)(u:Hp v.cells.toList=true):Quiet P hp ⟨dd,.buildSlice t 1 #[(0,x)],ty,ps,af,gd⟩ arg (.d (slD U T [c])):=by
 have E:(Nat.beq c.length T&&Nat.ble (0*T+T) (List.replicate (1*T) Cw).length)=true:=by
  simp[L]
 have p:GY (λi=>some (i*T,T)) (List.replicate (1*T) Cw) [(0,c)]=some c:=by
  simp only[GY];rw[E];simp only[cond_true,QI,Option.some.injEq];rw[Nat.zero_mul,List.take_zero,List.nil_append,List.drop_eq_nil_of_le (by simp[L]),List.append_nil]
 have h:=Kt (P:=P) (hp:=hp) (dd:=dd) (ty:=ty) (ps:=ps) (af:=af) (gd:=gd) (len:=1) (parts:=[(0,x)]) (r:=[(0,c)]) M a Zbx (by simpa[Nat.blt_eq]using B) F (by have:=Nat.le_of_ble_eq_true G;omega) u (ZO C PartsA.nil) p
 have A:Hc T 1 c=[c]:=by
  simp only[Hc];rw[<-L,List.take_length]
 rwa [A]at h
theorem Hq{o:Oper}{R:HR->Prop}(G:o.guard=none)(h:∃r,Quiet P vc.hp o (Eo vc uj vC) r/\R (.av r)):∃r,HStep P vc uj vC o r/\R r:=by
 obtain⟨r,u,A⟩:=h;exact⟨_,HStep.q G u,A⟩
end
section
variable {P:Program} {s0:An} {m:Nat} {ops:Array Oper} {Q:Exit->AS->Prop} {rest:List Oper} {σ:AS} {hp:List Ow} {arg:Operand->AV} {dd:Option Tmp} {ty:TypeId} {ps:String} {af:Array Edge} {gd:Option (Nat×Bool)} {R:AV->Prop} {H:HR->Prop} {acc:List HR} {e:List (Nat×Nat)}
theorem EW(h:∃r,Quiet P hp ⟨dd,.move x,ty,ps,af,gd⟩ arg r/\R r):∃r,Quiet P hp ⟨dd,.move x,ty,ps,af,gd⟩ arg r/\R r:=h
theorem SW(h:∃r,HStep P σ acc e ⟨dd,.move x,ty,ps,af,gd⟩ r/\H r):∃r,HStep P σ acc e ⟨dd,.move x,ty,ps,af,gd⟩ r/\H r:=h
theorem Fg(h:∃r,Quiet P hp ⟨dd,.assign x,ty,ps,af,gd⟩ arg r/\R r):∃r,Quiet P hp ⟨dd,.assign x,ty,ps,af,gd⟩ arg r/\R r:=h
theorem RB(h:∃r,HStep P σ acc e ⟨dd,.assign x,ty,ps,af,gd⟩ r/\H r):∃r,HStep P σ acc e ⟨dd,.assign x,ty,ps,af,gd⟩ r/\H r:=h
theorem NQ(h:∃r,Quiet P hp ⟨dd,.load t x,ty,ps,af,gd⟩ arg r/\R r):∃r,Quiet P hp ⟨dd,.load t x,ty,ps,af,gd⟩ arg r/\R r:=h
theorem SX(h:∃r,HStep P σ acc e ⟨dd,.load t x,ty,ps,af,gd⟩ r/\H r):∃r,HStep P σ acc e ⟨dd,.load t x,ty,ps,af,gd⟩ r/\H r:=h
theorem GI(h:∃r,Quiet P hp ⟨dd,.fieldAddr n x b,ty,ps,af,gd⟩ arg r/\R r):∃r,Quiet P hp ⟨dd,.fieldAddr n x b,ty,ps,af,gd⟩ arg r/\R r:=h
theorem IN(h:∃r,HStep P σ acc e ⟨dd,.fieldAddr n x b,ty,ps,af,gd⟩ r/\H r):∃r,HStep P σ acc e ⟨dd,.fieldAddr n x b,ty,ps,af,gd⟩ r/\H r:=h
theorem LN(h:∃r,Quiet P hp ⟨dd,.indexAddr t x y,ty,ps,af,gd⟩ arg r/\R r):∃r,Quiet P hp ⟨dd,.indexAddr t x y,ty,ps,af,gd⟩ arg r/\R r:=h
theorem IM(h:∃r,HStep P σ acc e ⟨dd,.indexAddr t x y,ty,ps,af,gd⟩ r/\H r):∃r,HStep P σ acc e ⟨dd,.indexAddr t x y,ty,ps,af,gd⟩ r/\H r:=h
theorem WS(h:∃r,Quiet P hp ⟨dd,.call { callee:=.builtin .len,args:=uF,argTypes:=vs },ty,ps,af,gd⟩ arg r/\R r):∃r,Quiet P hp ⟨dd,.call { callee:=.builtin .len,args:=uF,argTypes:=vs },ty,ps,af,gd⟩ arg r/\R r:=h
theorem A1R(h:∃r,HStep P σ acc e ⟨dd,.call { callee:=.builtin .len,args:=uF,argTypes:=vs },ty,ps,af,gd⟩ r/\H r):∃r,HStep P σ acc e ⟨dd,.call { callee:=.builtin .len,args:=uF,argTypes:=vs },ty,ps,af,gd⟩ r/\H r:=h
theorem A55(h:∃r,Quiet P hp ⟨dd,.call { callee:=.builtin .max,args:=uF,argTypes:=vs },ty,ps,af,gd⟩ arg r/\R r):∃r,Quiet P hp ⟨dd,.call { callee:=.builtin .max,args:=uF,argTypes:=vs },ty,ps,af,gd⟩ arg r/\R r:=h
theorem UQ(h:∃r,Quiet P hp ⟨dd,.call { callee:=.value x,args:=uF,argTypes:=vs },ty,ps,af,gd⟩ arg r/\R r):∃r,Quiet P hp ⟨dd,.call { callee:=.value x,args:=uF,argTypes:=vs },ty,ps,af,gd⟩ arg r/\R r:=h
theorem PS(h:∃r,HStep P σ acc e ⟨dd,.call { callee:=.value x,args:=uF,argTypes:=vs },ty,ps,af,gd⟩ r/\H r):∃r,HStep P σ acc e ⟨dd,.call { callee:=.value x,args:=uF,argTypes:=vs },ty,ps,af,gd⟩ r/\H r:=h
theorem WT(h:∃r,Quiet P hp ⟨dd,.binOp .add t x y U,ty,ps,af,gd⟩ arg r/\R r):∃r,Quiet P hp ⟨dd,.binOp .add t x y U,ty,ps,af,gd⟩ arg r/\R r:=h
theorem A1V(h:∃r,HStep P σ acc e ⟨dd,.binOp .add t x y U,ty,ps,af,gd⟩ r/\H r):∃r,HStep P σ acc e ⟨dd,.binOp .add t x y U,ty,ps,af,gd⟩ r/\H r:=h
theorem A1O(h:∃r,Quiet P hp ⟨dd,.binOp .sub t x y U,ty,ps,af,gd⟩ arg r/\R r):∃r,Quiet P hp ⟨dd,.binOp .sub t x y U,ty,ps,af,gd⟩ arg r/\R r:=h
theorem A1Q(h:∃r,HStep P σ acc e ⟨dd,.binOp .sub t x y U,ty,ps,af,gd⟩ r/\H r):∃r,HStep P σ acc e ⟨dd,.binOp .sub t x y U,ty,ps,af,gd⟩ r/\H r:=h
theorem A54(h:∃r,Quiet P hp ⟨dd,.binOp .quo t x y U,ty,ps,af,gd⟩ arg r/\R r):∃r,Quiet P hp ⟨dd,.binOp .quo t x y U,ty,ps,af,gd⟩ arg r/\R r:=h
theorem A1P(h:∃r,Quiet P hp ⟨dd,.binOp .rem t x y U,ty,ps,af,gd⟩ arg r/\R r):∃r,Quiet P hp ⟨dd,.binOp .rem t x y U,ty,ps,af,gd⟩ arg r/\R r:=h
theorem WV(h:∃r,HStep P σ acc e ⟨dd,.binOp .rem t x y U,ty,ps,af,gd⟩ r/\H r):∃r,HStep P σ acc e ⟨dd,.binOp .rem t x y U,ty,ps,af,gd⟩ r/\H r:=h
theorem A61(h:∃r,Quiet P hp ⟨dd,.binOp .or t x y U,ty,ps,af,gd⟩ arg r/\R r):∃r,Quiet P hp ⟨dd,.binOp .or t x y U,ty,ps,af,gd⟩ arg r/\R r:=h
theorem Hl(h:∃r,Quiet P hp ⟨dd,.binOp vT t x y U,ty,ps,af,gd⟩ arg r/\R r):∃r,Quiet P hp ⟨dd,.binOp vT t x y U,ty,ps,af,gd⟩ arg r/\R r:=h
theorem A1T(h:∃r,HStep P σ acc e ⟨dd,.binOp vT t x y U,ty,ps,af,gd⟩ r/\H r):∃r,HStep P σ acc e ⟨dd,.binOp vT t x y U,ty,ps,af,gd⟩ r/\H r:=h
theorem A60{K:UnOp}(h:∃r,Quiet P hp ⟨dd,.unOp K t x,ty,ps,af,gd⟩ arg r/\R r):∃r,Quiet P hp ⟨dd,.unOp K t x,ty,ps,af,gd⟩ arg r/\R r:=h
theorem A3R{K:UnOp}(h:∃r,HStep P σ acc e ⟨dd,.unOp K t x,ty,ps,af,gd⟩ r/\H r):∃r,HStep P σ acc e ⟨dd,.unOp K t x,ty,ps,af,gd⟩ r/\H r:=h
theorem A56(h:∃r,Quiet P hp ⟨dd,.extract x n,ty,ps,af,gd⟩ arg r/\R r):∃r,Quiet P hp ⟨dd,.extract x n,ty,ps,af,gd⟩ arg r/\R r:=h
theorem A1S(h:∃r,HStep P σ acc e ⟨dd,.extract x n,ty,ps,af,gd⟩ r/\H r):∃r,HStep P σ acc e ⟨dd,.extract x n,ty,ps,af,gd⟩ r/\H r:=h
theorem LM(h:∃r,Quiet P hp ⟨dd,.pick x y vX,ty,ps,af,gd⟩ arg r/\R r):∃r,Quiet P hp ⟨dd,.pick x y vX,ty,ps,af,gd⟩ arg r/\R r:=h
theorem Yc(h:∃r,HStep P σ acc e ⟨dd,.pick x y vX,ty,ps,af,gd⟩ r/\H r):∃r,HStep P σ acc e ⟨dd,.pick x y vX,ty,ps,af,gd⟩ r/\H r:=h
theorem UR(h:∃r,Quiet P hp ⟨dd,.build t uV,ty,ps,af,gd⟩ arg r/\R r):∃r,Quiet P hp ⟨dd,.build t uV,ty,ps,af,gd⟩ arg r/\R r:=h
theorem PT(h:∃r,HStep P σ acc e ⟨dd,.build t uV,ty,ps,af,gd⟩ r/\H r):∃r,HStep P σ acc e ⟨dd,.build t uV,ty,ps,af,gd⟩ r/\H r:=h
theorem ZR(h:∃r,Quiet P hp ⟨dd,.buildSlice n b uV,ty,ps,af,gd⟩ arg r/\R r):∃r,Quiet P hp ⟨dd,.buildSlice n b uV,ty,ps,af,gd⟩ arg r/\R r:=h
theorem MD(h:∃r,HStep P σ acc e ⟨dd,.buildSlice n b uV,ty,ps,af,gd⟩ r/\H r):∃r,HStep P σ acc e ⟨dd,.buildSlice n b uV,ty,ps,af,gd⟩ r/\H r:=h
theorem A3p(h:∃r,Quiet P hp ⟨dd,.convert t U x,ty,ps,af,gd⟩ arg r/\R r):∃r,Quiet P hp ⟨dd,.convert t U x,ty,ps,af,gd⟩ arg r/\R r:=h
theorem SY(h:∃r,HStep P σ acc e ⟨dd,.convert t U x,ty,ps,af,gd⟩ r/\H r):∃r,HStep P σ acc e ⟨dd,.convert t U x,ty,ps,af,gd⟩ r/\H r:=h
theorem A1U(h:∃r,HStep P σ acc e ⟨dd,.alloc t,ty,ps,af,gd⟩ r/\H r):∃r,HStep P σ acc e ⟨dd,.alloc t,ty,ps,af,gd⟩ r/\H r:=h
theorem US(h:AWl P s0 m ops Q (⟨dd,.alloc t,ty,ps,af,gd⟩::rest) σ):AWl P s0 m ops Q (⟨dd,.alloc t,ty,ps,af,gd⟩::rest) σ:=h
theorem PU(h:AWl P s0 m ops Q (⟨dd,.store t x y,ty,ps,af,gd⟩::rest) σ):AWl P s0 m ops Q (⟨dd,.store t x y,ty,ps,af,gd⟩::rest) σ:=h
theorem A1X(h:AWl P s0 m ops Q (⟨dd,.box t x,ty,ps,af,gd⟩::rest) σ):AWl P s0 m ops Q (⟨dd,.box t x,ty,ps,af,gd⟩::rest) σ:=h
theorem A58(h:AWl P s0 m ops Q (⟨dd,.call { callee:=.builtin .append,args:=uF,argTypes:=vs },ty,ps,af,gd⟩::rest) σ):AWl P s0 m ops Q (⟨dd,.call { callee:=.builtin .append,args:=uF,argTypes:=vs },ty,ps,af,gd⟩::rest) σ:=h
theorem A62(h:AWl P s0 m ops Q (⟨dd,.makeSlice t x y,ty,ps,af,gd⟩::rest) σ):AWl P s0 m ops Q (⟨dd,.makeSlice t x y,ty,ps,af,gd⟩::rest) σ:=h
theorem A3S(h:AWl P s0 m ops Q (⟨dd,.buildSlice t 0 #[],ty,ps,af,gd⟩::rest) σ):AWl P s0 m ops Q (⟨dd,.buildSlice t 0 #[],ty,ps,af,gd⟩::rest) σ:=h
theorem IP{u y:Code}(h:AWp P s0 m (.cond x u y) Q σ):AWp P s0 m (.cond x u y) Q σ:=h
end
structure CellAt(ds:List D)(off:Nat)(u:D):Prop where
 lt:off<ds.length
 eq:Df ds off=u
structure PartAt(ds:List D)(off n:Nat)(es:List D):Prop where
 le:off+n<=ds.length
 eq:(ds.drop off).take n=es
structure SetAt(ds:List D)(off:Nat)(es ds':List D):Prop where
 le:off+es.length<=ds.length
 eq:QI ds off es=ds'
theorem CellAt.mon{a:Nat->Int}(h:n<8):CellAt (Cr a) n (ex (.int .i64 (a n))):=⟨h,NG h⟩
theorem HH(h:n<8):CellAt (Cr ve) (0+n*1) (ex (.int .i64 (ve n))):=by rw[Nat.zero_add,Nat.mul_one];exact .mon h
theorem Gl{k:Nat}(h:k<8):CellAt ((Cr ve).drop (k*1)) 0 (ex (.int .i64 (ve k))):=by
 rw[Nat.mul_one];refine⟨by rw[List.length_drop,TQ];omega,?_⟩;rw[Ij];exact NG h
theorem YY(h:n<8):QI (Cr ve) n [ex (.int .i64 a)]=Cr (On ve n a):=by
 match n,h with
 |0,_=>rfl
 |1,_=>rfl
 |2,_=>rfl
 |3,_=>rfl
 |4,_=>rfl
 |5,_=>rfl
 |6,_=>rfl
 |7,_=>rfl
theorem SetAt.mon{a:Nat->Int}{z:Int}(h:n<8):SetAt (Cr a) (0+n*1) [ex (.int .i64 z)] (Cr (On a n z)):=by
 rw[Nat.zero_add,Nat.mul_one];exact⟨h,YY h⟩
def A44:List (List D)->Nat->Option (List D)
 |[],_=>none
 |r::_,0=>some r
 |_::l,i+1=>A44 l i
theorem Xu:∀{l:List (List D)} {i:Nat} {r:List D},A44 l i=some r->r=l.getD i []/\i<l.length
 |[],_,_,h=>by cases h
 |x::l,0,r,h=>by cases h;exact⟨rfl,by simp⟩
 |x::l,i+1,r,h=>by
  obtain⟨u,A⟩:=Xu (l:=l) (i:=i) h;exact⟨by simpa using u,by simp;omega⟩
section
variable {P:Program} {hp:List Ow} {arg:Operand->AV} {dd:Option Tmp} {ty:TypeId} {ps:String} {af:Array Edge} {gd:Option (Nat×Bool)}
theorem KK{e n b u A len id off k:Nat}(C:arg x=.ptr id off)(N:arg y=.d (ex (.int i ((k:Nat):Int))))(M:Tab P t (.array len e) n b z)(a:Tab P e d u A v)(B:k<len):Quiet P hp ⟨dd,.indexAddr t x y,ty,ps,af,gd⟩ arg (.ptr id (off+k*u)):=
 LE (o:=⟨dd,.indexAddr t x y,ty,ps,af,gd⟩) rfl C N M a Zbx Zbx
theorem JB{e n b u A len T k:Nat}(C:arg x=.d (Et T c))(N:arg y=.d (ex (.int i ((k:Nat):Int))))(M:Tab P t (.array len e) n b z)(a:Tab P e d u A v)(B:k<len):Quiet P hp ⟨dd,.indexAddr t x y,ty,ps,af,gd⟩ arg (.d (Et T (c.drop (k*u)))):=
 LF (o:=⟨dd,.indexAddr t x y,ty,ps,af,gd⟩) rfl C N M a Zbx Zbx
theorem FM{e n b E F T q:Nat}{r:List D}(C:II hp (arg x)=some (slD T q vp))(N:arg y=.d (ex (.int i a)))(M:Tab P t (.slice e) n b z)(B:Tab P e d E F v)(w:E=q)(Y:A44 vp a.toNat=some r)(g:0<=a):Quiet P hp ⟨dd,.indexAddr t x y,ty,ps,af,gd⟩ arg (.d (Et T r)):=by
 obtain⟨u,A⟩:=Xu Y;rw[u];exact Quiet.index (o:=⟨dd,.indexAddr t x y,ty,ps,af,gd⟩) rfl C N M B w g Zbx
theorem LI(C:arg x=.d (ex (.int .i64 ((n:Nat):Int))))(N:arg y=.d (ex (.int .i64 1)))(g:0<n)(u:(n:Int)<9223372036854775807):Quiet P hp ⟨dd,.binOp .sub t x y U,ty,ps,af,gd⟩ arg (.d (ex (.int .i64 ((n-1:Nat):Int)))):=by
 have:=Quiet.sub (P:=P) (hp:=hp) (o:=⟨dd,.binOp .sub t x y U,ty,ps,af,gd⟩) rfl C N Zbx Zbx;rwa [show(n:Int)-1=((n-1:Nat):Int)by omega]at this
theorem Ka(C:arg x=.ptr m e)(i:hp[m]? = some (.var T (c.map .d)))(M:Tab P t d n b z)(W:DS d=false)(G:CellAt c e r):Quiet P hp ⟨dd,.load t x,ty,ps,af,gd⟩ arg (.d r):=by
 have:=LD (P:=P) (o:=⟨dd,.load t x,ty,ps,af,gd⟩) rfl C i M W G.lt;rwa [G.eq]at this
theorem Ip(C:arg x=.d (Et T c))(M:Tab P t d n b z)(W:DS d=false)(G:CellAt c 0 r):Quiet P hp ⟨dd,.load t x,ty,ps,af,gd⟩ arg (.d r):=by
 have:=LC (P:=P) (hp:=hp) (o:=⟨dd,.load t x,ty,ps,af,gd⟩) rfl C M W G.lt;rwa [G.eq]at this
theorem SR(C:arg x=.d (Et T c))(M:Tab P t d n b z)(W:DS d=true)(G:PartAt c 0 n vk):Quiet P hp ⟨dd,.load t x,ty,ps,af,gd⟩ arg (.d (AL vk)):=by
 have:=Jz (P:=P) (hp:=hp) (o:=⟨dd,.load t x,ty,ps,af,gd⟩) rfl C M W (by have:=G.le;omega);rwa [<-G.eq,List.drop_zero]
theorem Kd(C:arg x=.d (AL c))(N:arg y=.d (ex (.int i ((k:Nat):Int))))(M:Tab P t (.array e n) b T z)(a:Tab P n d 1 m v)(W:DS d=false)(B:k<e)(G:CellAt c k r):Quiet P hp ⟨dd,.index t x y,ty,ps,af,gd⟩ arg (.d r):=by
 have:=Ru (P:=P) (hp:=hp) (o:=⟨dd,.index t x y,ty,ps,af,gd⟩) rfl C N M a W Zbx Zbx (by have:=G.lt;omega);rw[show((k:Nat):Int).toNat=k from rfl,G.eq]at this;exact this
theorem A1J(C:arg x=.d (AL c))(N:arg y=.d (ex (.int i ((va:Nat):Int))))(M:Tab P t (.array k n) b T z)(a:Tab P n d m e v)(W:DS d=true)(B:va<k)(G:PartAt c (va*m) m vk):Quiet P hp ⟨dd,.index t x y,ty,ps,af,gd⟩ arg (.d (AL vk)):=by
 have:=ZM (P:=P) (hp:=hp) (o:=⟨dd,.index t x y,ty,ps,af,gd⟩) rfl C N M a W Zbx Zbx G.le;rw[show((va:Nat):Int).toNat=va from rfl,G.eq]at this;exact this
theorem Zg (a b : Nat → Int) (w : World) : (do eqGuard .eql 112 x y (.agg (c8 a)) (.agg (c8 b)); binOp .eql 112 (.agg (c8 a)) (.agg (c8 b)) : Sem Value).run Tryz.prog w = .ok (.bool (Na a b)) w := by
 exact Zfi
theorem YU (a b : Nat → Int) (w : World) : (do eqGuard .neq 112 x y (.agg (c8 a)) (.agg (c8 b)); binOp .neq 112 (.agg (c8 a)) (.agg (c8 b)) : Sem Value).run Tryz.prog w = .ok (.bool (!Na a b)) w := by
 exact Zfi
theorem Hg {a b v : Value} {o : Oper} (I : o.op = .binOp vT t x y U) (C : arg x = .d r) (N : arg y = .d vu) (F : ∀ s u, r.rel s u → u = a) (E : ∀ s u, vu.rel s u → u = b) (Y : ∀ w, (do eqGuard vT t x y a b; binOp vT t a b : Sem Value).run P w = .ok v w) : Quiet P hp o arg (.d (ex v)) := by
 refine⟨λbase s S j T L K h=>?_⟩;have A:=h x (by rw[I];simp[Op.operands]);have B:=h y (by rw[I];simp[Op.operands]);rw[C]at A;rw[N]at B;have d:=F s _ A;have G:=E s _ B;have:=Y s.w;refine BL (v:=v) ?_ ⟨GS.Le.refl s,rfl⟩;simp only[execOp,I,d,G,Sem.run_bind,this,Result.andThen_ok,Sem.run_pure]
theorem JC(C:arg x=.d (AL (Cr ve)))(N:arg y=.d (AL (Cr vx))):Quiet Tryz.prog hp ⟨dd,.binOp .eql 112 x y t,ty,ps,af,gd⟩ arg (.d (ex (.bool (Na ve vx)))):=
 Hg rfl C N (λ_ _ h=>CO h) (λ_ _ h=>CO h) λw=>Zg ve vx w
theorem JA{U:TypeId}(C:arg x=.d (AL (Cr ve)))(N:arg y=.d (AL (Cr vx))):Quiet Tryz.prog hp ⟨dd,.binOp .neq 112 x y U,ty,ps,af,gd⟩ arg (.d (ex (.bool (!Na ve vx)))):=
 Hg rfl C N (λ_ _ h=>CO h) (λ_ _ h=>CO h) λw=>YU ve vx w
theorem Mz(C:arg x=.d (AL (Cr ve)))(N:arg y=.d (AL (Cr vx)))(h:Na ve vx=true):Quiet Tryz.prog hp ⟨dd,.binOp .eql 112 x y t,ty,ps,af,gd⟩ arg (.d (ex (.bool true))):=by
 rw[<-h];exact JC C N
theorem MA(C:arg x=.d (AL (Cr ve)))(N:arg y=.d (AL (Cr vx)))(h:Na ve vx=false):Quiet Tryz.prog hp ⟨dd,.binOp .eql 112 x y t,ty,ps,af,gd⟩ arg (.d (ex (.bool false))):=by
 rw[<-h];exact JC C N
theorem Mw{U:TypeId}(C:arg x=.d (AL (Cr ve)))(N:arg y=.d (AL (Cr vx)))(h:Na ve vx=true):Quiet Tryz.prog hp ⟨dd,.binOp .neq 112 x y U,ty,ps,af,gd⟩ arg (.d (ex (.bool false))):=by
 exact ZfP
theorem Mv{U:TypeId}(C:arg x=.d (AL (Cr ve)))(N:arg y=.d (AL (Cr vx)))(h:Na ve vx=false):Quiet Tryz.prog hp ⟨dd,.binOp .neq 112 x y U,ty,ps,af,gd⟩ arg (.d (ex (.bool true))):=by
 exact ZfP
theorem MB(C:arg x=.d (ex (.bool p)))(N:arg y=.d (ex (.bool ul)))(g:P.underlying t=some .bool):Quiet P hp ⟨dd,.binOp .eql t x y U,ty,ps,af,gd⟩ arg (.d (ex (.bool (p==ul)))):=
 Cu (o:=⟨dd,.binOp .eql t x y U,ty,ps,af,gd⟩) rfl C N λw=>by
  exact Zff
theorem JY(C:arg x=.d (ex (.bool p)))(N:arg y=.d (ex (.bool ul)))(g:P.underlying t=some .bool):Quiet P hp ⟨dd,.binOp .neq t x y U,ty,ps,af,gd⟩ arg (.d (ex (.bool (!(p==ul))))):=
 Cu (o:=⟨dd,.binOp .neq t x y U,ty,ps,af,gd⟩) rfl C N λw=>by
  exact Zff
end
section
variable {P:Program} {s0:An} {n:Nat} {ops:Array Oper} {Q:Exit->AS->Prop} {rest:List Oper} {fr:List (Nat×AV)} {hp:List Ow} {ty:TypeId} {ps:String} {af:Array Edge}
theorem NR{b id m off:Nat}(C:AS.arg ⟨fr,hp⟩ x=.ptr id off)(N:AS.arg ⟨fr,hp⟩ y=.d (AL vk))(i:hp[id]? = some (.var U (c.map .d)))(M:Tab P t d m b z)(s:vk.length=m)(G:SetAt c off vk uU)(u:Fu hp id (.var U (uU.map .d))=some H)
  (h:AWl P s0 n ops Q rest ⟨fr,H⟩):AWl P s0 n ops Q (⟨none,.store t x y,ty,ps,af,none⟩::rest) ⟨fr,hp⟩:=by
 refine Qb (o:=⟨none,.store t x y,ty,ps,af,none⟩) rfl rfl rfl C N i M s (by rw[<-s];exact Nat.ble_eq_true_of_le G.le) ?_;rw[Er u,<-G.eq]at h;exact h
theorem JE{b id off:Nat}(C:AS.arg ⟨fr,hp⟩ x=.ptr id off)(N:AS.arg ⟨fr,hp⟩ y=.d r)(i:hp[id]? = some (.var U (c.map .d)))(M:Tab P t d 1 b z)(u:One hp (.d r))(G:SetAt c off [r] vk)(B:Fu hp id (.var U (vk.map .d))=some H)
  (h:AWl P s0 n ops Q rest ⟨fr,H⟩):AWl P s0 n ops Q (⟨none,.store t x y,ty,ps,af,none⟩::rest) ⟨fr,hp⟩:=by
 have A:off<c.length:=G.le;refine Nn (o:=⟨none,.store t x y,ty,ps,af,none⟩) rfl rfl rfl C N i M u A ?_;have E:=G.eq
 have:QI c off [r]=c.set off r:=by
  unfold QI;exact ZgS
 rw[this]at E;rw[Er B,<-E]at h;exact h
end
theorem QN:∀{F u:List Ow} {i:Nat} {x:Ow},F[i]? = some x->Fu F i x=some u->u=F
 |[],_,_,_,h,_=>by cases h
 |o::l,u,0,x,h,d=>by cases h;cases d;rfl
 |o::l,u,i+1,x,h,d=>by
  unfold Fu at d;split at d
  .rename_i r Y
   cases d;rw[QN ZcK Y]
  .cases d
theorem A25{s0:An}(id:Nat)(E:List D)(i:H[id]? = some (.var t (c.map .d)))(a:c=E)(b:Fu H id (.var t (E.map .d))=some vw)(h:AWl P s0 n ud vl vf ⟨vd,vw⟩):AWl P s0 n ud vl vf ⟨vd,H⟩:=by
 subst a;rw[QN i b]at h;exact h
theorem BU{x y P Z:D}(h:D.le x P)(d:D.le y Z):D.le (EX [x,y]) (EX [P,Z]):=λs v o=>by
 obtain⟨F,e,L,C⟩:=o;refine⟨F,e,L,λk r=>?_⟩;obtain⟨u,A,B⟩:=C k r
 match k,r with
 |0,_=>exact⟨u,A,h s u B⟩
 |1,_=>exact⟨u,A,d s u B⟩
 |k+2,r=>exact absurd r ZbK
theorem PW(h:vj=uf):D.le (Cd vj) (Cd uf):=Af (by rw[h])
theorem ZU:D.le (ex (.slice none 0 0)) (Cd []):=Bd
end
end Go.Proofs.YtcikkglcoeedlaaGreat
