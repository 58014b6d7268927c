/- Part 17. No condition. -/
import Derived.Test.YtcikkglcoeedlaaGreatDf2
import Derived.Test.YtcikkglcoeedlaaGreatDf3
import Derived.Test.YtcikkglcoeedlaaGreatDf9
import Derived.Test.YtcikkglcoeedlaaGreatDf14
import Derived.Test.YtcikkglcoeedlaaGreatDf15
import Derived.Test.YtcikkglcoeedlaaGreatDf16
set_option linter.unusedSimpArgs false
set_option linter.unusedVariables false
set_option maxRecDepth 100000
namespace Go.Proofs.YtcikkglcoeedlaaGreat
open _root_.Go.Proofs.Tryz
variable{vf:AS}{f:AV}{xc:AV->Prop}{xd:Array (Nat×Operand)}{vV:Array Field}{vZ:Array Oper}{uJ:Array Operand}{vs:Array TypeId}{vW:BinOp}{o um:Bool}{r vx up xa:D}{vl:Exit->AS->Prop}{ub:Field}{vO:Func}{ve:FuncId}{s:GS}{a j:Int}{i:IntKind}{vm ud:List (List D)}{vu:List (Nat->Int)}{vc:List (Nat×AV)}{uv:List (Nat×List D)}{vw:List (Nat×Nat)}{ue:List (Nat×Operand)}{R:List AV}{v vn xb:List D}{uq:List HR}{l:List Nat}{vd:List Oper}{vN:List Operand}{H vA:List Ow}{vb uf:List Tm}{ug:List Value}{e:Type}{vv:List e}{n b T m c k g vk:Nat}{vh vC:Nat->Int}{ui:Op}{va:Oper}{x y vS:Operand}{vz:Operand->AV}{P:Program}{vD:Rat}{vK:Tm}{d:TypeDesc}{t U:TypeId}{z u:Value}{w:World}{vJ:e->List D}
section
open Go.RowKit
theorem Ag (p : P.funcs[ve]? = some vO) (h : (vO.name == "runtime.NumGoroutine") = false) (E : vO.body.isNone = false) (args : Array Value) (w : World) : (callFunc ve args).run P w = .ok (.enter ve args) w := by
 have:(program).run P w = .ok P w:=rfl;have m : ¬ vO.name = "runtime.NumGoroutine" := by simpa using h
 have T:¬vO.body=none:=λe=>by rw[e]at E;cases E
 simp[callFunc,this,p,m,T]
theorem BH(i:∀args w,(callFunc ve args).run P w=.ok (.enter ve args) w)(h:∀(s:GS) (J:List Value),s.Ok->J.length=v.length->(∀k,k<v.length->(DM v k).rel s (J.getD k undef)) ->
  Calls P ve J.toArray s.w λe M=>∃B,e=.returned B/\Ext s.w M/\∀j:GS,j.w=M->j.Ok->(∀b k,s.w.heap.size<=b->b<M.heap.size->j.S b k)->GS.Le s j->r.rel j B):Abs P ve v r:=by
 refine⟨i,λs J E I C=>(h s J E I C).mono λe M ⟨B,a,Q,V⟩=>⟨B,a,s.grown M,rfl,FG Q,?_⟩⟩;exact V _ rfl ((FG Q).ok E) (λb k q A=>.inr ⟨q,A⟩) (FG Q)
theorem vs1(h:ug.length=1):ug=[ug.getD 0 undef]:=by
 match ug,h with
 |[a],_=>rfl
theorem ZP(h:ug.length=2):ug=[ug.getD 0 undef,ug.getD 1 undef]:=by
 match ug,h with
 |[a,b],_=>rfl
def wD(l:List Nat):D:=⟨λs v=>(slD 335 1 (l.map λx=>[ex (.int .u32 (x:Nat))])).rel s v/\BN l,λh F=>⟨(slD _ _ _).st h.1 F,h.2⟩⟩
theorem Et(h:(wD l).rel s z):Words s.w z l:=by
 obtain⟨⟨A,c,q,B,K,Y⟩,Z⟩:=h;simp only[Yap]at q B Y;refine⟨A,c,q,B,K,Z,λd=>?_⟩;obtain⟨b,o,n,C⟩:=Y d;obtain⟨_,f,Q,E,y⟩:=C 0 d;refine⟨b,o,f,Q,n,E,λi J=>?_⟩;obtain⟨W,L,I,X,v⟩:=C i J;rw[E]at X;cases X;obtain⟨_,u,F,_,G⟩:=v 0 (by rw[W];omega);have e:DM ((l.map λx=>[ex (.int .u32 (x:Nat))]).getD i []) 0=ex (.int .u32 (l[i]:Nat)):=by simp[DM,J]
 rw[e]at G;have G:u=_:=G;rw[YbF,Ybi]at F;rw[F,G]
theorem JC(F:s.Ok)(h:Words s.w z l):(wD l).rel s z:=by
 obtain⟨A,c,q,B,K,Z,Y⟩:=h;refine⟨⟨A,c,by rw[Yap];exact q,by rw[Yap];exact B,K,λd=>?_⟩,Z⟩;rw[Yap]at d;obtain⟨b,o,f,Q,n,E,G⟩:=Y d;refine⟨b,o,n,λk C=>?_⟩;rw[Yap]at C;have e:(l.map λx=>[ex (.int .u32 (x:Nat))]).getD k []=[ex (.int .u32 (l[k]:Nat))]:=by simp[C]
 rw[e];refine⟨rfl,f,Q,E,λj W=>?_⟩;obtain rfl:j=0:=by simp at W;omega
 rw[YbF,Ybi];exact⟨F.safe b _ ⟨f,Q,E⟩,_,G k C,rfl,rfl⟩
def Cv(z:Int):List D:=[ex (.bool (decide (z<0))),wD (Aw z.natAbs)]
def DB(q:Rat):List D:=[ex (.bool (decide (q.num<0))),wD (Aw q.num.natAbs),ex (.bool (decide ((q.den:Int)<0))),wD (Aw (q.den:Int).natAbs)]
theorem Nc(h:(wD l).rel s z):∃A n c,z=.slice A n c:=by
 obtain⟨A,c,q,_⟩:=h.1;exact⟨A,_,c,q⟩
theorem ag2(h:(AQ [r,vx]).rel s z):∃C d,z=.agg #[C,d]/\r.rel s C/\vx.rel s d:=by
 obtain⟨f,rfl,q,A⟩:=h;obtain⟨C,l,_,E⟩:=A 0 ZbV;obtain⟨d,b,_,a⟩:=A 1 ZbV;refine⟨C,d,?_,E,a⟩;congr 1;refine Array.ext ZdS λi J B=>?_;simp at B
 match i,B with
 |0,_=>exact ZjV
 |1,_=>exact ZjW
theorem ag4(h:(AQ [r,vx,up,xa]).rel s z):∃E d k G,z=.agg #[E,d,k,G]/\r.rel s E/\vx.rel s d/\up.rel s k/\xa.rel s G:=by
 obtain⟨f,rfl,q,A⟩:=h;obtain⟨E,l,_,F⟩:=A 0 ZbV;obtain⟨d,b,_,a⟩:=A 1 ZbV;obtain⟨k,y,_,S⟩:=A 2 ZbV;obtain⟨G,B,_,N⟩:=A 3 ZbV;refine⟨E,d,k,G,?_,F,a,S,N⟩;congr 1;refine Array.ext ZdS λi J C=>?_;simp at C
 match i,C with
 |0,_=>exact ZjV
 |1,_=>exact ZjW
 |2,_=>exact Yag ((YaJ J).symm.trans y)
 |3,_=>exact Yag ((YaJ J).symm.trans B)
theorem YW{l:List Value}(h:(AQ (l.map ex)).rel s z):z=.agg l.toArray:=by
 obtain⟨f,rfl,q,A⟩:=h;congr 1;refine Array.ext ZdS λi J B=>?_;simp at B;obtain⟨u,e,_,r⟩:=A i Zdn;have y:DM (l.map ex) i=ex l[i]:=by simp[DM,B]
 rw[y]at r;have r:u=l[i]:=r;rw[YaJ J]at e;rw[Yag e,r];simp
theorem Abh{l:List Value}(h:HO l=true):(AQ (l.map ex)).rel s (.agg l.toArray):=by
 refine⟨_,rfl,by simp,λk B=>?_⟩;simp at B;refine⟨l[k],by simp[B],Yaj.1 h _ ZbV,?_⟩;have y:DM (l.map ex) k=ex l[k]:=by simp[DM,B]
 rw[y];rfl
theorem A2X(h:(AQ (DB vD)).rel s z):∃(b C:Bool) (A E:Option Addr) (n c g k:Nat),z=.agg #[.bool b,.slice A n c,.bool C,.slice E g k]/\IsRat s.w (.bool b) (.slice A n c) (.bool C) (.slice E g k) vD:=by
 obtain⟨F,G,I,J,rfl,d,q,B,K⟩:=ag4 h;obtain rfl:F=_:=d;obtain rfl:I=_:=B;obtain⟨A,n,c,rfl⟩:=Nc q;obtain⟨E,g,k,rfl⟩:=Nc K;exact⟨_,_,A,E,n,c,g,k,rfl,⟨rfl,Et q⟩,⟨rfl,Et K⟩⟩
theorem A7l{A F:Option Addr}(E:s.Ok)(h:IsRat s.w (.bool o) (.slice A n b) (.bool um) (.slice F T m) vD):(AQ (DB vD)).rel s (.agg #[.bool o,.slice A n b,.bool um,.slice F T m]):=by
 obtain⟨⟨q,B⟩,K,Y⟩:=h;refine⟨_,rfl,rfl,λk C=>?_⟩;have C:k<4:=C
 match k,C with
 |0,_=>exact⟨_,rfl,rfl,q⟩
 |1,_=>exact⟨_,rfl,rfl,JC E B⟩
 |2,_=>exact⟨_,rfl,rfl,K⟩
 |3,_=>exact⟨_,rfl,rfl,JC E Y⟩
theorem DU(h:(AQ (Cv a)).rel s z):∃(b:Bool) (A:Option Addr) (n c:Nat),z=.agg #[.bool b,.slice A n c]/\IsInt s.w (.bool b) (.slice A n c) a:=by
 obtain⟨B,C,rfl,d,q⟩:=ag2 h;obtain rfl:B=_:=d;obtain⟨A,n,c,rfl⟩:=Nc q;exact⟨_,A,n,c,rfl,rfl,Et q⟩
theorem HC{A:Option Addr}(E:s.Ok)(h:IsInt s.w (.bool o) (.slice A n b) a):(AQ (Cv a)).rel s (.agg #[.bool o,.slice A n b]):=by
 obtain⟨q,B⟩:=h;refine⟨_,rfl,rfl,λk C=>?_⟩;have C:k<2:=C
 match k,C with
 |0,_=>exact⟨_,rfl,rfl,q⟩
 |1,_=>exact⟨_,rfl,rfl,JC E B⟩
def CE(a:Nat->Int):List D:=[ex (.int .i64 (a 0)),ex (.int .i64 (a 1)),ex (.int .i64 (a 2)),ex (.int .i64 (a 3)),ex (.int .i64 (a 4)),ex (.int .i64 (a 5)),ex (.int .i64 (a 6)),ex (.int .i64 (a 7))]
theorem CY(h:(AQ (CE vh)).rel s z):z=.agg (c8 vh):=YW (l:=(c8 vh).toList) h
theorem A7z(a:Nat->Int):(AQ (CE a)).rel s (.agg (c8 a)):=Abh (l:=(c8 a).toList) rfl
theorem NB(h:n<8):DM (CE vh) n=ex (.int .i64 (vh n)):=by
 match n,h with
 |0,_=>rfl
 |1,_=>rfl
 |2,_=>rfl
 |3,_=>rfl
 |4,_=>rfl
 |5,_=>rfl
 |6,_=>rfl
 |7,_=>rfl
def QA(t:Tm):List D:=DB t.c++CE t.m
theorem XW(a:Nat->Int):(CE a).length=8:=rfl
theorem MF(t:Tm):(QA t).length=12:=rfl
theorem A4E(t:Tm):(QA t).drop 4=CE t.m:=rfl
theorem UF{f:Array Value}(t:f.size=12)(h:∀k,k<12->∃u,f[k]? = some u/\u.oneCell'=true/\(DM (QA vK) k).rel s u):TmV s.w f vK:=by
 obtain⟨F,l,_,z⟩:=h 0 ZbG;obtain⟨d,b,_,a⟩:=h 1 ZbG;obtain⟨G,y,_,S⟩:=h 2 ZbG;obtain⟨I,B,_,N⟩:=h 3 ZbG;obtain rfl:F=_:=z;obtain rfl:G=_:=S;obtain⟨A,n,c,rfl⟩:=Nc a;obtain⟨K,g,q,rfl⟩:=Nc N
 have x:∀i,i<8->f[4+i]? = some (.int .i64 (vK.m i)):=λi J=>by
  obtain⟨u,e,_,r⟩:=h (4+i) ZbG;have y:DM (QA vK) (4+i)=ex (.int .i64 (vK.m i)):=by rw[<-NB J,<-A4E,IM]
  rw[y]at r;rw[e];exact congrArg some r
 refine⟨_,_,A,K,n,c,g,q,?_,⟨rfl,Et a⟩,rfl,Et N⟩;refine Array.ext (by rw[t];rfl) λi E C=>?_;rw[t]at E;refine Yag ?_;rw[<-YaJ,<-YaJ]
 match i,E with
 |0,_=>exact l
 |1,_=>exact b
 |2,_=>exact y
 |3,_=>exact B
 |4,_=>exact x 0 ZbG
 |5,_=>exact x 1 ZbG
 |6,_=>exact x 2 ZbG
 |7,_=>exact x 3 ZbG
 |8,_=>exact x 4 ZbG
 |9,_=>exact x 5 ZbG
 |10,_=>exact x 6 ZbG
 |11,_=>exact x 7 ZbG
def BP(P:List Tm):D:=slD 114 12 (P.map QA)
theorem A59(h:n<vb.length):(vb.map QA).getD n []=QA (Bv vb n):=ZjU
theorem OM(h:(BP vb).rel s z):PolAt s.w z vb:=by
 obtain⟨A,c,q,B,K,Y⟩:=h;simp only[Yap]at q B Y;refine⟨A,c,q,B,K,λd=>?_⟩;obtain⟨b,o,n,E⟩:=Y d;obtain⟨_,f,Q,F,y⟩:=E 0 d;refine⟨b,o,f,Q,n,F,λk C=>?_⟩;obtain⟨G,L,J,X,v⟩:=E k C;rw[F]at X;cases X;rw[A59 C]at v;refine⟨f.extract (o+k*12) (o+k*12+12),UF (s:=s) ?_ λj W=>?_,λj W=>?_⟩
 .obtain ⟨_, u, e, _⟩:=v 11 (by simp [MF])
  have:=(Ybz.1 e).1;exact ZiB
 .obtain ⟨_,u,e,a,S⟩:=v j W
  exact⟨u,by rw[YdD,Yan (by have:=(Ybz.1 e).1;obtain⟨_,x,I,_⟩:=v 11 (by simp[MF]);have:=(Ybz.1 I).1;omega)];exact e,a,S⟩
 .obtain ⟨_, x, I, _⟩:=v 11 (by simp [MF])
  have:=(Ybz.1 I).1;rw[YdD,Yan ZbG]
theorem AbK(C:r.rel s z)(N:vx.rel s u):(Gb [r,vx]).rel s (.tuple #[z,u]):=⟨_,rfl,rfl,λk B=>by
 match k,B with
 |0,_=>exact⟨_,rfl,C⟩
 |1,_=>exact⟨_,rfl,N⟩
 |k+2,B=>exact absurd B ZbV⟩
def Du(R:List (Nat->Int)):D:=slD 36 8 (R.map CE)
theorem XD(h:n<vu.length):(vu.map CE).getD n []=CE (FT vu n):=by simp[FT,Yab,Yac h]
theorem A07(h:(slD t 8 (vu.map CE)).rel s z):RowsAt .i64 t s.w z vu:=by
 obtain⟨A,c,q,B,K,Y⟩:=h;simp only[Yap]at q B Y;refine⟨A,c,q,B,K,λd=>?_⟩;obtain⟨b,o,n,E⟩:=Y d;obtain⟨_,f,Q,F,y⟩:=E 0 d;refine⟨b,o,f,Q,n,F,λk j C W=>?_⟩;obtain⟨G,L,I,X,v⟩:=E k C;rw[F]at X;cases X;rw[XD C]at v;obtain⟨_,u,e,_,r⟩:=v j W;rw[NB W]at r;have r:u=_:=r;rw[e,r]
theorem A32(h:(Du vu).rel s z):RowsAt .i64 36 s.w z vu:=A07 h
theorem A4Y(h:RowsAt .i64 t s.w z vu)(p:∀b o,(∃n c,z=.slice (some ⟨b,o,none⟩) n c)->∀k,s.S b k):(slD t 8 (vu.map CE)).rel s z:=by
 obtain⟨A,c,q,B,K,Y⟩:=h;refine⟨A,c,by rw[Yap];exact q,by rw[Yap];exact B,K,λd=>?_⟩;rw[Yap]at d;obtain⟨b,o,f,Q,E,F,G⟩:=Y d;subst E;refine⟨b,o,rfl,λk C=>?_⟩;rw[Yap]at C;rw[XD C];refine⟨rfl,f,Q,F,λj W=>⟨p b o ⟨_,_,q⟩ _,_,G k j C W,rfl,?_⟩⟩;rw[NB W];rfl
theorem Nu(h:OwnRows 36 n w z vu)(B:s.w=w)(p:∀b k,n<=b->b<w.heap.size->s.S b k):(Du vu).rel s z:=by
 subst B;refine A4Y h.rows λb o ⟨q,c,r⟩ k=>?_;obtain⟨A,K⟩:=h;rcases K with⟨e,_⟩ | ⟨g,cap,cur,e,h5,h6,_⟩
 .rw [e]at r;cases r
 .rw [e]at r
  cases r;exact p _ k h5 (Bw h6)
theorem Xo(h:(AQ (QA vK)).rel s z):∃(b C:Bool) (A E:Option Addr) (n c g k:Nat),z=.agg (tmc b C A E n c g k vK.m)/\IsRat s.w (.bool b) (.slice A n c) (.bool C) (.slice E g k) vK.c:=by
 obtain⟨f,rfl,q,B⟩:=h;obtain⟨b,C,A,E,n,c,g,k,rfl,K⟩:=UF (s:=s) q B;exact⟨b,C,A,E,n,c,g,k,rfl,K⟩
theorem PG(z:Int):Abs prog 238 [AQ (Cv z)] (ex (.int .i64 z.sign)):=by
 refine BH (Ag func238 ZbK ZbK) λs J C I r=>?_;rw[vs1 I];obtain⟨q,A,t,X,l,d⟩:=DU (r 0 ZbV);rw[l];exact(A3F q A t X z _ d).mono λe M ⟨a,Q⟩=>⟨_,a,Q,λj c h _ _=>rfl⟩
theorem Zt(x y:Int)(h:(Aw x.natAbs).length<=4398046511104)(A:(Aw y.natAbs).length<=4398046511104):Abs prog 215 [AQ (Cv x),AQ (Cv y)] (AQ (Cv (x*y))):=by
 refine BH (Ag func215 ZbK ZbK) λs J C I r=>?_;rw[ZP I];obtain⟨B,F,t,X,l,d⟩:=DU (r 0 ZbV);obtain⟨U,G,f,K,b,q⟩:=DU (r 1 ZbV);rw[l,b];exact(A6i B U F G t X f K x y _ d q h A).mono λe M ⟨y,Y,m,k,a,W,Q⟩=>⟨_,a,Q,λj c E _ _=>by subst c;exact HC E W⟩
theorem Sg(a b:Nat->Int):Abs prog 297 [AQ (CE a),AQ (CE b)] (ex (.int .i64 (Ih a b))):=by
 refine BH (Ag func297 ZbK ZbK) λs J C I r=>?_;rw[ZP I];have l:=CY (r 0 ZbV);have A:=CY (r 1 ZbV);rw[l,A];exact(A5A a b _).mono λe M ⟨q,Q⟩=>⟨_,q,Q,λj c h _ _=>rfl⟩
theorem GA(a b:Nat->Int):Abs prog 229 [AQ (CE a),AQ (CE b)] (ex (.int .i64 (Ih a b))):=by
 refine BH (Ag func229 ZbK ZbK) λs J C I r=>?_;rw[ZP I];have l:=CY (r 0 ZbV);have A:=CY (r 1 ZbV);rw[l,A];exact(A3I a b _).mono λe M ⟨q,Q⟩=>⟨_,q,Q,λj c h _ _=>rfl⟩
theorem A5z(a b:Nat->Int)(l:In8 a 0 65535)(E:In8 b 0 65535)(h:In8 (CT a b) 0 65535):Abs prog 323 [AQ (CE a),AQ (CE b)] (Gb [AQ (CE (CT a b)),ex (.int .i64 0)]):=by
 refine BH (Ag func323 ZbK ZbK) λs J C I r=>?_;rw[ZP I];have B:=CY (r 0 ZbV);have A:=CY (r 1 ZbV);rw[B,A];exact(A3g a b _ l E h).mono λe M ⟨q,Q⟩=>⟨_,q,Q,λj c F _ _=>AbK (A7z _) rfl⟩
theorem Ye(a:Nat->Int)(h:In8 a (-1000000) 1000000):Abs prog 289 [AQ (CE a)] (ex (.int .i64 (CV a 8))):=by
 refine BH (Ag func289 ZbK ZbK) λs J C I r=>?_;rw[vs1 I];have l:=CY (r 0 ZbV);rw[l];exact(A1u a _ h).mono λe M ⟨q,Q⟩=>⟨_,q,Q,λj c A _ _=>rfl⟩
theorem VR(a:Nat->Int):Abs prog 299 [AQ (CE a)] (ex (.int .u8 (suppTo a 8))):=by
 refine BH (Ag func299 ZbK ZbK) λs J C I r=>?_;rw[vs1 I];have l:=CY (r 0 ZbV);rw[l];exact(YY a _).mono λe M ⟨q,Q⟩=>⟨_,q,Q,λj c h _ _=>rfl⟩
theorem KV(a:Nat->Int)(h:In8 a 0 65535):Abs prog 298 [AQ (CE a)] (ex (.bool true)):=by
 refine BH (Ag func298 ZbK ZbK) λs J C I r=>?_;rw[vs1 I];have l:=CY (r 0 ZbV);rw[l];exact(PS a _ h).mono λe M ⟨q,Q⟩=>⟨_,q,Q,λj c A _ _=>rfl⟩
theorem Yc(a:Nat->Int)(h:¬In8 a 0 65535):Abs prog 298 [AQ (CE a)] (ex (.bool false)):=by
 refine BH (Ag func298 ZbK ZbK) λs J C I r=>?_;rw[vs1 I];have l:=CY (r 0 ZbV);rw[l];exact(VQ a _ h).mono λe M ⟨q,Q⟩=>⟨_,q,Q,λj c A _ _=>rfl⟩
theorem A6q:Abs prog 129 [] (Du []):=by
 refine BH (Ag func129 ZbK ZbK) λs J C I r=>?_;obtain rfl:J=[]:=YaF I;exact(A6p s.w).mono λe M ⟨A,c,a,v,Q⟩=>⟨_,a,Q,λj q h p _=>Nu v q p⟩
theorem Zh:Abs prog 130 [] (Du [BW 255]):=by
 refine BH (Ag func130 ZbK ZbK) λs J C I r=>?_;obtain rfl:J=[]:=YaF I;exact(Qg s.w).mono λe M ⟨A,c,a,v,Q⟩=>⟨_,a,Q,λj q h p _=>Nu v q p⟩
theorem NS:Abs prog 131 [] (Du revRows):=by
 refine BH (Ag func131 ZbK ZbK) λs J C I r=>?_;obtain rfl:J=[]:=YaF I;exact(NR s.w).mono λe M ⟨A,c,a,v,Q⟩=>⟨_,a,Q,λj q h p _=>Nu v q p⟩
theorem Ps(m:Nat)(x:m<256):Abs prog 132 [ex (.int .u8 m)] (Du (BW m::revRows)):=by
 refine BH (Ag func132 ZbK ZbK) λs J C I r=>?_;rw[vs1 I];have l:J.getD 0 undef=.int .u8 m:=r 0 ZbV;rw[l];exact(Pr m _ x).mono λe M ⟨A,c,a,v,Q⟩=>⟨_,a,Q,λj q h p _=>Nu v q p⟩
theorem TN(t u:Tm):Abs prog 50 [AQ (QA t),AQ (QA u)] (ex (.bool (ZH t u))):=by
 refine BH (Ag func50 ZbK ZbK) λs J C I r=>?_;rw[ZP I];obtain⟨A,O,E,G,B,X,N,L,l,d⟩:=Xo (r 0 ZbV);obtain⟨U,Y,F,S,f,K,V,W,b,q⟩:=Xo (r 1 ZbV);rw[l,b];exact(MB A O E G B X N L U Y F S f K V W t u _ d q).mono λe M ⟨a,Q⟩=>⟨_,a,Q,λj c h _ _=>rfl⟩
theorem A3O(P Q:List Tm):Abs prog 17 [BP P,BP Q] (ex (.bool (Hg P Q))):=by
 refine BH (Ag func17 ZbK ZbK) λs J C I r=>?_;rw[ZP I];have d:=OM (r 0 ZbV);have q:=OM (r 1 ZbV);exact(A3N (J.getD 0 undef) (J.getD 1 undef) P Q _ d q).mono λe M ⟨a,A⟩=>⟨_,a,A,λj c h _ _=>rfl⟩
theorem A7R:(v.map AV.d)[n]? = if n<v.length then some (.d (DM v n))else none:=by
 rw[Yau];split
 .rename_i h
  simp[DM,h]
 .rename_i h
  simp[YbE (Nat.le_of_not_lt h)]
section
variable {P:Program} {hp:List Ow} {o:Oper} {arg:Operand->AV}
theorem Quiet.succ{a:Nat}(E:o.op=.binOp .add t x y U)(C:arg x=.d (ex (.int .i64 (a:Nat))))(N:arg y=.d (ex (.int .i64 1)))(q:(a:Int)<9223372036854775807):Quiet P hp o arg (.d (ex (.int .i64 ((a+1:Nat):Int)))):=
 Quiet.add E C N ZbG ZbG
theorem Quiet.quo(B:o.op=.binOp .quo t x y U)(C:arg x=.d (ex (.int .i64 a)))(N:arg y=.d (ex (.int .i64 j)))(d:0<=a)(q:a<=9223372036854775807)(E:0<j):Quiet P hp o arg (.d (ex (.int .i64 (a/j)))):=
 CM B C N λw=>by
  have A:a/j<=a:=Int.ediv_le_self j d;have K:0<=a/j:=Int.ediv_nonneg d ZbG;have Y:a.tdiv j=a/j:=YbU d;have e:IntKind.i64.wrap (a/j)=a/j:=IntWalk.i64_in _ ZbG;have F:j≠0:=by omega
  simp[eqGuard,binOp,Op.intDiv,F,Y,e]
theorem Quiet.rem(q:o.op=.binOp .rem t x y U)(C:arg x=.d (ex (.int i a)))(N:arg y=.d (ex (.int i j)))(d:0<=a)(E:0<j):Quiet P hp o arg (.d (ex (.int i (a%j)))):=
 CM q C N λw=>by
  have Y:a.tmod j=a%j:=Ycl d;have B:j≠0:=by omega
  simp[eqGuard,binOp,Op.intDiv,B,Y]
theorem A12(q:o.op=.binOp .rem t x y U)(C:arg x=.d (ex (.int i a)))(N:arg y=.d (ex (.int i j)))(E:j≠0):Quiet P hp o arg (.d (ex (.int i (a.tmod j)))):=
 CM q C N λw=>by simp[eqGuard,binOp,Op.intDiv,E]
theorem Quiet.max(G:o.op=.call { callee:=.builtin .max,args:=#[x,y],argTypes:=vs })(C:arg x=.d (ex (.int i a)))(N:arg y=.d (ex (.int i j))):Quiet P hp o arg (.d (ex (.int i (Max.max a j)))):=by
 refine⟨λbase s X B F z Z h=>?_⟩;have q:=h x Zdj;have A:=h y Zdj;rw[C]at q;rw[N]at A;have b:B x=.int i a:=q;have E:B y=.int i j:=A;refine Cd (v:=.int i (Max.max a j)) ?_ ⟨GS.Le.refl s,rfl⟩
 have I:(if j>a then j else a)=Max.max a j:=by
  rw[Int.max_def];by_cases h:a<=j
  .rw [Yan h];split<;>omega
  .rw [Yai h,Yai ZbG]
 simp only[execOp,G,resolve,invoke,builtin,Sem.run_bind,Sem.run_pure,Result.andThen_ok,YcK,Ybc,Ycj,b,E,Builtin.max_,List.foldlM_cons,List.foldlM_nil,Builtin.max2,I]
theorem Quiet.min{k:IntKind}{a b:Int}(G:o.op=.call { callee:=.builtin .min,args:=#[x,y],argTypes:=vs })(C:arg x=.d (ex (.int k a)))(N:arg y=.d (ex (.int k b))):Quiet P hp o arg (.d (ex (.int k (Min.min a b)))):=by
 refine⟨λbase s X i F z Z h=>?_⟩;have q:=h x Zdj;have A:=h y Zdj;rw[C]at q;rw[N]at A;have B:i x=.int k a:=q;have E:i y=.int k b:=A;refine Cd (v:=.int k (Min.min a b)) ?_ ⟨GS.Le.refl s,rfl⟩
 have I:(if b<a then b else a)=Min.min a b:=by
  rw[Int.min_def];by_cases h:a<=b
  .rw [Yan h,Yai ZbG]
  .rw [Yai h];split<;>omega
 simp only[execOp,G,resolve,invoke,builtin,Sem.run_bind,Sem.run_pure,Result.andThen_ok,YcK,Ybc,Ycj,B,E,Builtin.min_,List.foldlM_cons,List.foldlM_nil,Builtin.min2,I]
theorem A3T(G:o.op=.binOp .or t x y U)(C:arg x=.d (ex (.int .u8 (n:Nat))))(N:arg y=.d (ex (.int .u8 (b:Nat))))(l:n<256)(E:b<256):Quiet P hp o arg (.d (ex (.int .u8 ((n ||| b:Nat):Int)))):=
 CM G C N λw=>by
  have q:(BitVec.ofInt 8 (n:Int) ||| BitVec.ofInt 8 (b:Int)).toNat=n ||| b:=by
   rw[Yea,YdS,YdS,Ycy,Ycy,YaS l,YaS E]
  have A:n ||| b<256:=Yeu (n:=8) l E
  have K:IntKind.u8.wrap ((n ||| b:Nat):Int)=((n ||| b:Nat):Int):=by
   unfold IntKind.wrap;have:(((n ||| b:Nat):Int))%(2^IntKind.u8.bits:Int)=((n ||| b:Nat):Int):=Int.emod_eq_of_lt ZbG (by show _<(256:Int);omega);simp[this,IntKind.signed]
  have Y:(BitVec.ofInt IntKind.u8.bits (n:Int) ||| BitVec.ofInt IntKind.u8.bits (b:Int)).toNat=n ||| b:=q
  have B:n%2^IntKind.u8.bits=n:=YaS l;have F:b%2^IntKind.u8.bits=b:=YaS E;simp[eqGuard,binOp,Op.intBits,B,F,K]
theorem WJ[Inhabited e](E:o.op=.indexAddr t x y)(C:HV hp (arg x)=some (slD k g (vv.map vJ)))(N:arg y=.d (ex (.int i (vk:Nat))))(L:Tab P t (.slice n) b T z)(a:Tab P n d m c u)(F:m=g)(B:vk<vv.length):Quiet P hp o arg (.d (Fg k (vJ (vv.getD vk default)))):=by
 have q:=Quiet.index (P:=P) (hp:=hp) E C N L a F ZbG ZiB
 have A:(vv.map vJ).getD ((vk:Nat):Int).toNat []=vJ (vv.getD vk default):=by
  show(vv.map vJ).getD vk []=_;simp[Yab,B]
 rwa [A]at q
theorem WI(E:o.op=.load t x)(C:arg x=.d (Fg T v))(L:Tab P t d n b z)(e:Fa d=true)(h:v.length=n):Quiet P hp o arg (.d (AQ v)):=by
 have:=Ls (P:=P) (hp:=hp) E C L e ZbG;rwa [<-h,YaT]at this
theorem SQ{hp:List Ow}:∀(l:List D),A0J hp (l.map .d)=some l
 |[]=>rfl
 |x::l=>by simp only[Ybc,A0J,HV,SQ l]
theorem Zk(E:o.op=.load t x)(C:arg x=.ptr m c)(s:hp[m]? = some (.var T (v.map .d)))(L:Tab P t d n b z)(e:Fa d=true)(h:Nat.ble (c+n) v.length=true):Quiet P hp o arg (.d (AQ ((v.drop c).take n))):=
 Zj E C s L e (by rw[<-YdU,<-YdV];exact SQ _) (by have:=YbB h;simpa using this)
theorem NZ(E:o.op=.load t x)(C:arg x=.ptr m c)(s:hp[m]? = some (.var T (v.map .d)))(L:Tab P t d n b z)(e:Fa d=false)(h:c<v.length):Quiet P hp o arg (.d (DM v c)):=
 NX E C s L e (by rw[A7R,Yan h])
end
section
variable {P:Program} {s0:An} {n:Nat} {ops:Array Oper} {Q:Exit->AS->Prop} {rest:List Oper} {o:Oper} {σ:AS}
theorem A1F{b id m:Nat}(E:o.op=.store t x y)(T:o.guard=none)(Y:o.dst=none)(C:σ.arg x=.ptr id 0)(N:σ.arg y=.d (AQ v))(s:σ.hp[id]? = some (.var U R))(L:Tab P t d m b z)(q:v.length=m)(M:R.length=m)
  (h:AWl P s0 n ops Q rest { fr:=σ.fr,hp:=σ.hp.set id (.var U (v.map .d)) }):AWl P s0 n ops Q (o::rest) σ:=by
 refine Tr E T Y C N s L q ZbG ?_
 have:Ke R 0 (v.map .d)=v.map .d:=by
  unfold Ke;rw[YbR,Ycs,YaL ZiB,YbC]
 rw[this];exact h
theorem Tq{b id m off:Nat}(E:o.op=.store t x y)(T:o.guard=none)(Y:o.dst=none)(C:σ.arg x=.ptr id off)(N:σ.arg y=.d (AQ vn))(s:σ.hp[id]? = some (.var U (v.map .d)))(L:Tab P t d m b z)(q:vn.length=m)(M:Nat.ble (off+m) v.length=true)
  (h:AWl P s0 n ops Q rest { fr:=σ.fr,hp:=σ.hp.set id (.var U ((Ue v off vn).map .d)) }):AWl P s0 n ops Q (o::rest) σ:=by
 refine Tr E T Y C N s L q (by have:=YbB M;simpa using this) ?_;have:Ke (v.map .d) off (vn.map .d)=(Ue v off vn).map .d:=by simp[Ke,Ue]
 rw[this];exact h
theorem Qk{b id off:Nat}(E:o.op=.store t x y)(T:o.guard=none)(Y:o.dst=none)(C:σ.arg x=.ptr id off)(N:σ.arg y=.d r)(s:σ.hp[id]? = some (.var U (v.map .d)))(L:Tab P t d 1 b z)(q:One σ.hp (.d r))(M:off<v.length)
  (h:AWl P s0 n ops Q rest { fr:=σ.fr,hp:=σ.hp.set id (.var U ((v.set off r).map .d)) }):AWl P s0 n ops Q (o::rest) σ:=by
 refine Ts E T Y C N s L q (by simpa using M) ?_;have:(v.map AV.d).set off (.d r)=(v.set off r).map .d:=by rw[List.map_set]
 rw[this];exact h
theorem A1I{m b:Nat}(E:o.op=.alloc t)(T:o.guard=none)(L:Tab P t d m b z)(i:Nat.beq t 335=false)(q:HO z.cells.toList=true)(e:Wh o.dst n=true)(h:AWl P s0 n ops Q rest (σ.new o.dst (.ptr σ.hp.length 0) (.var t ((z.cells.toList.map ex).map .d)))):AWl P s0 n ops Q (o::rest) σ:=by
 refine AWl.alloc E T L (YaI i) q e ?_;have:ZL z.cells.toList=(z.cells.toList.map ex).map .d:=by simp[ZL]
 rw[this];exact h
end
def Ac1(e:List (Nat×AV)):Operand->Option AV
 |.tmp t=>Ch e t
 |.const v=>some (.d (ex v))
 |.global g=>some (.d (ex (.pointer (some ⟨g,0,none⟩))))
 |.func f=>some (.d (ex (.func (.func f) #[] #[])))
theorem ao(h:Ac1 vc x=some f):AS.arg ⟨vc,H⟩ x=f:=by
 cases x with
 |tmp t=>
  show(Ch vc t).getD (.d CC)=f;have h:Ch vc t=some f:=h;rw[h];rfl
 |const v=>exact ZjX
 |global g=>exact ZjX
 |func q=>exact ZjX
theorem A13{o:Oper}(E:o.op=.call { callee:=.builtin .len,args:=#[x],argTypes:=#[t] })(C:HV H (vz x)=some (slD m c (vv.map vJ)))(L:Tab P t (.slice n) b T z):Quiet P H o vz (.d (ex (.int .i64 (vv.length:Nat)))):=by
 have:=Quiet.len (P:=P) E C L;rwa [Yap]at this
def PY:List (Nat×Nat)->Nat->Option Nat
 |[],_=>none
 |p::r,t=>bif Nat.beq p.1 t then some p.2 else PY r t
theorem Sv:∀{o:List (Nat×Nat)} {t j:Nat},PY o t=some j->∃p,o.find? (λp=>p.1==t)=some p/\p.2=j
 |[],_,_,h=>by cases h
 |p::r,t,j,h=>by
  unfold PY at h
  cases E:Nat.beq p.1 t with
  |true=>rw[E]at h;cases h;exact⟨p,by rw[YeE,Yao E];simp,rfl⟩
  |false=>
   rw[E]at h;obtain⟨q,A,B⟩:=Sv h;refine⟨q,?_,B⟩;rw[YeE];have:(p.1==t)=false:=by simpa using YaI E
   rw[this];exact A
theorem Sw:∀{o:List (Nat×Nat)} {t:Nat},PY o t=none->o.find? (λp=>p.1==t)=none
 |[],_,_=>rfl
 |p::r,t,h=>by
  unfold PY at h
  cases E:Nat.beq p.1 t with
  |true=>exact Zji
  |false=>
   rw[E]at h;rw[YeE];have:(p.1==t)=false:=by simpa using YaI E
   rw[this];exact Sw h
def IL:Option HR->Option AV
 |some (.av r)=>some r
 |_=>none
def Ac0(e:List (Nat×AV))(c:List HR)(o:List (Nat×Nat)):Operand->Option AV
 |.tmp t=>match PY o t with
  |some j=>IL c[j]?
  |none=>Ch e t
 |.const v=>some (.d (ex v))
 |.global _=>none
 |.func f=>some (.d (ex (.func (.func f) #[] #[])))
theorem ah{fr:List (Nat×AV)}{hp:List Ow}{rs:List HR}{es:List (Nat×Nat)}{x:Operand}{av:AV}(h:Ac0 fr rs es x=some av):DT ⟨fr,hp⟩ rs es x=av:=by
 cases x with
 | tmp t=>
  replace h:(match PY es t with
   | some j=>IL rs[j]?
   | none=>Ch fr t)=some av:=h
  show (match es.find? (λp=>p.1==t) with
   | some p=>match rs[p.2]? with
    | some h=>h.val
    | none=>.d CC
   | none=>(Ch fr t).getD (.d CC))=av
  cases hf:PY es t with
  | some j=>
   rw [hf] at h
   replace h:IL rs[j]? = some av:=h
   obtain ⟨p,h1,h2⟩:=Sv hf
   simp only [h1,h2]
   cases hr:rs[j]? with
   | none=>rw [hr] at h;cases h
   | some r=>
    rw [hr] at h
    cases r with
    | av r=>cases h;rfl
    | new T cs=>cases h
  | none=>
   rw [hf] at h
   simp only [Sw hf]
   have h:Ch fr t=some av:=h
   rw [h];rfl
 | const v=>exact Yag h
 | global g=>cases h
 | func f=>exact Yag h
def Gd:List Ow->Ow->Option (List Ow)
 |[],x=>some [x]
 |o::l,x=>match Gd l x with
  |some r=>some (o::r)
  |none=>none
theorem Fe:∀{l:List Ow} {x:Ow} {r:List Ow},Gd l x=some r->r=l++[x]
 |[],x,r,h=>by cases h;rfl
 |o::l,x,r,h=>by
  unfold Gd at h;split at h
  .rename_i q V
   cases h;rw[Fe V];rfl
  .cases h
def HT:List Ow->Option Nat
 |[]=>some 0
 |_::l=>match HT l with
  |some k=>some (k+1)
  |none=>none
theorem FP:∀{l:List Ow} {k:Nat},HT l=some k->k=l.length
 |[],k,h=>by cases h;rfl
 |o::l,k,h=>by
  unfold HT at h;split at h
  .rename_i q V
   cases h;rw[FP V];rfl
  .cases h
def GZ:List Ow->Nat->Ow->Option (List Ow)
 |[],_,_=>none
 |_::l,0,x=>some (x::l)
 |o::l,i+1,x=>match GZ l i x with
  |some r=>some (o::r)
  |none=>none
theorem Fp:∀{l:List Ow} {i:Nat} {x:Ow} {r:List Ow},GZ l i x=some r->r=l.set i x
 |[],_,_,_,h=>by cases h
 |_::l,0,x,r,h=>by cases h;rfl
 |o::l,i+1,x,r,h=>by
  unfold GZ at h;split at h
  .rename_i q V
   cases h;rw[Fp V];rfl
  .cases h
def exO:List Value->Option (List D)
 |[]=>some []
 |v::l=>match exO l with
  |some r=>some (ex v::r)
  |none=>none
theorem SE:∀{l:List Value} {r:List D},exO l=some r->r=l.map ex
 |[],r,h=>by cases h;rfl
 |v::l,r,h=>by
  unfold exO at h;split at h
  .rename_i q V
   cases h;rw[SE V];rfl
  .cases h
def PM:Nat->List D->Option (List D)
 |0,_=>some []
 |_+1,[]=>none
 |n+1,d::l=>match PM n l with
  |some r=>some (d::r)
  |none=>none
theorem Nh:∀{n:Nat} {l r:List D},PM n l=some r->r=l.take n/\n<=l.length
 |0,l,r,h=>by cases h;exact⟨rfl,Yaw _⟩
 |n+1,[],r,h=>by cases h
 |n+1,d::l,r,h=>by
  unfold PM at h;split at h
  .rename_i B V
   cases h;obtain⟨q,A⟩:=Nh V;exact⟨by rw[q];rfl,by simpa using A⟩
  .cases h
def A4I:Nat->Nat->List D->Option (List D)
 |0,n,l=>PM n l
 |_+1,_,[]=>none
 |o+1,n,_::l=>A4I o n l
theorem A1O:∀{o n:Nat} {l r:List D},A4I o n l=some r->r=(l.drop o).take n/\o+n<=l.length
 |0,n,l,r,h=>by
  obtain⟨q,A⟩:=Nh (n:=n) (l:=l) (r:=r) (by cases l<;>exact h);exact⟨q,by omega⟩
 |o+1,n,[],r,h=>by cases h
 |o+1,n,d::l,r,h=>by
  obtain⟨q,A⟩:=A1O (o:=o) Zec;exact⟨q,by simp;omega⟩
def atO:Nat->List D->Option D
 |_,[]=>none
 |0,d::_=>some d
 |i+1,_::l=>atO i l
theorem Wt:∀{i:Nat} {l:List D} {d:D},atO i l=some d->d=DM l i/\i<l.length
 |i,[],d,h=>by cases i<;>cases h
 |0,x::l,d,h=>by cases h;exact⟨rfl,by simp⟩
 |i+1,x::l,d,h=>by
  obtain⟨q,A⟩:=Wt (i:=i) Zec;exact⟨q,by simpa using A⟩
def A57:List D->List D->Option (List D)
 |[],r=>some r
 |d::l,r=>match A57 l r with
  |some x=>some (d::x)
  |none=>none
theorem A22:∀{l r x:List D},A57 l r=some x->x=l++r
 |[],r,x,h=>by cases h;rfl
 |d::l,r,x,h=>by
  unfold A57 at h;split at h
  .rename_i G V
   cases h;rw[A22 V];rfl
  .cases h
def Qa:Nat->List D->Option (List D)
 |0,l=>some l
 |_+1,[]=>none
 |n+1,_::l=>Qa n l
theorem NF:∀{n:Nat} {l r:List D},Qa n l=some r->r=l.drop n/\n<=l.length
 |0,l,r,h=>by cases l<;>(cases h;exact⟨rfl,Yaw _⟩)
 |n+1,[],r,h=>by cases h
 |n+1,d::l,r,h=>by
  obtain⟨q,A⟩:=NF (n:=n) Zec;exact⟨q,by simpa using A⟩
def Vm:List D->Nat->List D->Option (List D)
 |l,0,q=>match Qa q.length l with
  |some r=>A57 q r
  |none=>none
 |[],_+1,_=>none
 |d::l,o+1,q=>match Vm l o q with
  |some r=>some (d::r)
  |none=>none
theorem QF:∀{l:List D} {o:Nat} {B r:List D},Vm l o B=some r->r=Ue l o B/\o+B.length<=l.length
 |l,0,B,r,h=>by
  have V:(match Qa B.length l with
   |some r=>A57 B r
   |none=>none)=some r:=by cases l<;>exact h
  split at V
  .rename_i C q
   obtain⟨A,K⟩:=NF q;rw[A22 V,A];exact⟨by simp[Ue],by omega⟩
  .cases V
 |[],o+1,B,r,h=>by cases h
 |d::l,o+1,B,r,h=>by
  unfold Vm at h;split at h
  .rename_i C q
   cases h;obtain⟨A,K⟩:=QF q;rw[A];refine⟨?_,by simp;omega⟩;simp only[Ue,Ybe,Ycz];rw[show o+1+B.length=(o+B.length)+1 by omega,Ybf]
  .cases h
def JT(id:Nat)(x:D):List (Nat×AV)->Option (List (Nat×AV))
 |[]=>some []
 |(t,.own j)::l=>match JT id x l with
  |some r=>bif Nat.beq j id then some ((t,.d x)::r)else some ((t,.own j)::r)
  |none=>none
 |(t,.fn f Y)::l=>match JT id x l with
  |some r=>bif Y.contains id then some ((t,.d CC)::r)else some ((t,.fn f Y)::r)
  |none=>none
 |(t,I)::l=>match JT id x l with
  |some r=>some ((t,I)::r)
  |none=>none
theorem SG{id:Nat}{x:D}:∀{l r:List (Nat×AV)},JT id x l=some r->r=l.map λp=>(p.1,down id x p.2)
 |[],r,h=>by cases h;rfl
 |(t,I)::l,r,h=>by
  have key:∃A,JT id x l=some A/\r=(t,down id x I)::A:=by
   cases I with
   |d y=>
    replace h:(match JT id x l with
     |some r=>some ((t,.d y)::r)
     |none=>none)=some r:=h
    split at h
    .rename_i A V;cases h;exact⟨A,V,rfl⟩
    .cases h
   |fn f Y=>
    replace h:(match JT id x l with
     |some r=>bif Y.contains id then some ((t,.d CC)::r)else some ((t,.fn f Y)::r)
     |none=>none)=some r:=h
    split at h
    .rename_i A V
     cases E:Y.contains id with
     |true=>rw[E]at h;cases h;exact⟨A,V,by simp only[down,E];rfl⟩
     |false=>rw[E]at h;cases h;exact⟨A,V,by simp only[down,E];rfl⟩
    .cases h
   |ptr i o=>
    replace h:(match JT id x l with
     |some r=>some ((t,.ptr i o)::r)
     |none=>none)=some r:=h
    split at h
    .rename_i A V;cases h;exact⟨A,V,rfl⟩
    .cases h
   |own j=>
    replace h:(match JT id x l with
     |some r=>bif Nat.beq j id then some ((t,.d x)::r)else some ((t,.own j)::r)
     |none=>none)=some r:=h
    split at h
    .rename_i A V
     cases E:Nat.beq j id with
     |true=>rw[E]at h;cases h;exact⟨A,V,by simp[down,E]⟩
     |false=>rw[E]at h;cases h;exact⟨A,V,by simp[down,E]⟩
    .cases h
  obtain⟨A,q,rfl⟩:=key;rw[SG q];rfl
def Gl(id:Nat):List AV->Bool
 |[]=>true
 |.own j::l=>bif Nat.beq j id then false else Gl id l
 |.fn _ Y::l=>bif Y.contains id then false else Gl id l
 |_::l=>Gl id l
def Id(id:Nat):List Ow->Bool
 |[]=>true
 |.var _ c::l=>Gl id c&&Id id l
 |.pin c::l=>Gl id (c.map (·.2))&&Id id l
 |_::l=>Id id l
theorem Gx{id:Nat}{x:D}:∀{l:List AV},Gl id l=true->l.map (down id x)=l
 |[],_=>rfl
 |.d y::l,h=>by rw[Ybc,Gx Zec];rfl
 |.ptr _ _::l,h=>by rw[Ybc,Gx Zec];rfl
 |.own j::l,h=>by
  replace h:(bif Nat.beq j id then false else Gl id l)=true:=h
  cases E:Nat.beq j id with
  |true=>exact Zji
  |false=>rw[E]at h;rw[Ybc,Gx Zec];exact Zip
 |.fn f Y::l,h=>by
  replace h:(bif Y.contains id then false else Gl id l)=true:=h
  cases E:Y.contains id with
  |true=>exact Zji
  |false=>rw[E]at h;rw[Ybc,Gx Zec];exact Zip
theorem RL{x:D}:∀{l:List (Value×AV)},Gl n (l.map (·.2))=true->(l.map λp=>(p.1,down n x p.2))=l:=λ{l} h=>by
 have q:=Gx (x:=x) h;apply Ycd;intro k;have A:=congrArg (λy=>y[k]?) q;simp only[Yau]at A ⊢
 cases B:l[k]? with
 |none=>rfl
 |some p=>
  rw[B]at A;simp only[Ydt,Yde]at A ⊢;rw[A]
theorem FK{id:Nat}{x:D}:∀{l:List Ow},Id id l=true->l.map (Ow.mapA (down id x))=l
 |[],_=>rfl
 |.var T c::l,h=>by
  simp only[Id,Yam]at h;rw[Ybc,FK h.2];simp only[Ow.mapA,Gx h.1]
 |.pin c::l,h=>by
  simp only[Id,Yam]at h;rw[Ybc,FK h.2];simp only[Ow.mapA,RL h.1]
 |.dead::l,h=>by rw[Ybc,FK Zec];rfl
 |.row _ _ _::l,h=>by rw[Ybc,FK Zec];rfl
 |.obj _::l,h=>by rw[Ybc,FK Zec];rfl
theorem PQ{id:Nat}:∀l:List D,Gl id (l.map .d)=true
 |[]=>rfl
 |_::l=>PQ (id:=id) l
def PlainHp(id:Nat):List Ow->Prop
 |[]=>True
 |.var _ c::l=>Gl id c=true/\PlainHp id l
 |.pin c::l=>Gl id (c.map (·.2))=true/\PlainHp id l
 |_::l=>PlainHp id l
theorem PlainHp.ok{id:Nat}:∀{l:List Ow},PlainHp id l->Id id l=true
 |[],_=>rfl
 |.var T c::l,h=>by simp only[Id,Yam];exact⟨h.1,PlainHp.ok h.2⟩
 |.pin c::l,h=>by simp only[Id,Yam];exact⟨h.1,PlainHp.ok h.2⟩
 |.dead::l,h=>PlainHp.ok (l:=l) h
 |.row _ _ _::l,h=>PlainHp.ok (l:=l) h
 |.obj _::l,h=>PlainHp.ok (l:=l) h
section
variable {id:Nat} {l:List Ow}
theorem PlainHp.nil:PlainHp id []:=trivial
theorem PlainHp.var{c:List D}(h:PlainHp id l):PlainHp id (.var t (c.map .d)::l):=⟨PQ c,h⟩
theorem PlainHp.varA{c:List AV}(F:Gl id c=true)(h:PlainHp id l):PlainHp id (.var t c::l):=⟨F,h⟩
theorem PlainHp.pin{c:List (Value×AV)}(F:Gl id (c.map (·.2))=true)(h:PlainHp id l):PlainHp id (.pin c::l):=⟨F,h⟩
theorem PlainHp.row{T sz:Nat}{r:List (List D)}(h:PlainHp id l):PlainHp id (.row T sz r::l):=h
end
def Wv:List (Nat×AV)->List Ow->Nat->List Oper->List HR->Option AS
 |e,G,0,_,_=>some ⟨e,G⟩
 |e,G,m+1,o::L,.av r::q=>match o.dst with
  |some d=>Wv ((d,r)::e) G m L q
  |none=>Wv e G m L q
 |e,G,m+1,o::L,.new T f::q=>match o.dst,HT G,exO f with
  |some d,some k,some c=>match Gd G (.var T (c.map .d))with
   |some H=>Wv ((d,.ptr k 0)::e) H m L q
   |none=>none
  |_,_,_=>none
 |_,_,_,_,_=>none
theorem QS:∀{m:Nat} {q:List (Nat×AV)} {G:List Ow} {L:List Oper} {C:List HR} {w:AS},Wv q G m L C=some w->C.length=m->w=AS.aft ⟨q,G⟩ (L.take m) C
 |0,q,G,L,C,w,h,I=>by
  obtain rfl:C=[]:=YaF I;cases L<;>(cases h;rfl)
 |m+1,q,G,[],[],w,h,I=>by cases I
 |m+1,q,G,[],r::C,w,h,I=>by cases r<;>cases h
 |m+1,q,G,o::L,[],w,h,I=>by cases I
 |m+1,q,G,o::L,.av r::C,w,h,I=>by
  rw[Ybe];have I:C.length=m:=by simpa using I
  unfold Wv at h
  cases e:o.dst with
  |some d=>
   rw[e]at h;have:=QS h I;rw[this];simp only[AS.aft,AS.put,e]
  |none=>
   rw[e]at h;have:=QS h I;rw[this];simp only[AS.aft,AS.put,e]
 |m+1,q,G,o::L,.new T f::C,w,h,I=>by
  rw[Ybe];have I:C.length=m:=by simpa using I
  unfold Wv at h;split at h
  .rename_i d k c e B F
   split at h
   .rename_i H Z
    have:=QS h I;rw[this];have b:=Fe Z;have y:=FP B;have A:=SE F;subst b;subst y;subst A;simp only[AS.aft,AS.new,AS.put,e];congr 3;simp[ZL]
   .cases h
  .cases h
section
variable {P:Program} {s0:An} {n:Nat} {ops:Array Oper} {Q:Exit->AS->Prop} {rest:List Oper} {o:Oper} {fr:List (Nat×AV)} {hp:List Ow}
theorem AWl.q{d:Nat}{r:AV}(p:o.dst=some d)(T:o.guard=none)(Z:BO o.op=true)(e:Nat.blt d n=true)(k:Quiet P hp o (AS.arg ⟨fr,hp⟩) r)(h:AWl P s0 n ops Q rest ⟨(d,r)::fr,hp⟩):AWl P s0 n ops Q (o::rest) ⟨fr,hp⟩:=
 A4i T Z Zeh k (by rw[p];exact h)
theorem Aas{d:Nat}{q:Bool}(A:o.guard=some (b,q))(N:(ops[b]?).bind (·.dst)=some T)(I:Ch fr T=some (.d (ex (.bool q))))(B:Nat.blt T n=true)(p:o.dst=some d)(Z:BO o.op=true)(e:Nat.blt d n=true)(k:Quiet P hp o (AS.arg ⟨fr,hp⟩) f)(h:AWl P s0 n ops Q rest ⟨(d,f)::fr,hp⟩):AWl P s0 n ops Q (o::rest) ⟨fr,hp⟩:=
 A1G A N I Zeb Z Zeh k (by rw[p];exact h)
theorem Aar{d:Nat}{q:Bool}(A:o.guard=some (b,q))(N:(ops[b]?).bind (·.dst)=some T)(I:Ch fr T=some (.d (ex z)))(B:isB z q=false)(C:Nat.blt T n=true)(p:o.dst=some d)(e:Nat.blt d n=true)(h:AWl P s0 n ops Q rest ⟨(d,.d (ex undef))::fr,hp⟩):AWl P s0 n ops Q (o::rest) ⟨fr,hp⟩:=
 A4h A N I B (by simpa[Ybh]using C) Zeh (by rw[p];exact h)
theorem AWl.al{m b k A:Nat}(E:o.op=.alloc t)(p:o.dst=some A)(T:o.guard=none)(L:Tab P t d m b z)(i:Nat.beq t 335=false)(q:HO z.cells.toList=true)(e:Nat.blt A n=true)(F:exO z.cells.toList=some v)(B:HT hp=some k)(Z:Gd hp (.var t (v.map .d))=some H)(h:AWl P s0 n ops Q rest ⟨(A,.ptr k 0)::fr,H⟩):AWl P s0 n ops Q (o::rest) ⟨fr,hp⟩:=by
 refine A1I E T L i q Zeh ?_;rw[SE F]at Z;exact ZhN
theorem Aau{k q:Nat}(E:o.op=.box t x)(p:o.dst=some q)(T:o.guard=none)(C:AS.arg ⟨fr,hp⟩ x=.d (AQ v))(i:Nat.beq t 335=false)(e:Nat.blt q n=true)(B:HT hp=some k)(Z:Gd hp (.var t (v.map .d))=some H)(h:AWl P s0 n ops Q rest ⟨(q,.ptr k 0)::fr,H⟩):AWl P s0 n ops Q (o::rest) ⟨fr,hp⟩:=by
 refine AWl.box E T C (YaI i) Zeh ?_;exact ZhN
theorem A8y{k A:Nat}(E:o.op=.box t x)(p:o.dst=some A)(T:o.guard=none)(C:AS.arg ⟨fr,hp⟩ x=.d (ex z))(q:z.oneCell'=true)(i:Nat.beq t 335=false)(e:Nat.blt A n=true)(B:HT hp=some k)(Z:Gd hp (.var t ([ex z].map .d))=some H)(h:AWl P s0 n ops Q rest ⟨(A,.ptr k 0)::fr,H⟩):AWl P s0 n ops Q (o::rest) ⟨fr,hp⟩:=by
 refine A6Z E T C q (YaI i) Zeh ?_;exact ZhN
theorem A8u{b id m:Nat}(E:o.op=.store t x y)(T:o.guard=none)(Y:o.dst=none)(C:AS.arg ⟨fr,hp⟩ x=.ptr id 0)(N:AS.arg ⟨fr,hp⟩ y=.d (AQ v))(s:hp[id]? = some (.var U R))(L:Tab P t d m b z)(q:v.length=m)(M:R.length=m)(Z:GZ hp id (.var U (v.map .d))=some H)
  (h:AWl P s0 n ops Q rest ⟨fr,H⟩):AWl P s0 n ops Q (o::rest) ⟨fr,hp⟩:=
 A1F E T Y C N s L q M (by rw[Fp Z]at h;exact h)
theorem A8v{b id m off:Nat}(E:o.op=.store t x y)(T:o.guard=none)(Y:o.dst=none)(C:AS.arg ⟨fr,hp⟩ x=.ptr id off)(N:AS.arg ⟨fr,hp⟩ y=.d (AQ vn))(s:hp[id]? = some (.var U (v.map .d)))(L:Tab P t d m b z)(A:vn.length=m)(F:Vm v off vn=some xb)(Z:GZ hp id (.var U (xb.map .d))=some H)
  (h:AWl P s0 n ops Q rest ⟨fr,H⟩):AWl P s0 n ops Q (o::rest) ⟨fr,hp⟩:=by
 obtain⟨q,B⟩:=QF F;refine Tq E T Y C N s L A (by rw[<-A];exact Ydc B) ?_;rw[Fp Z,q]at h;exact h
theorem A6X{b id off:Nat}(E:o.op=.store t x y)(T:o.guard=none)(Y:o.dst=none)(C:AS.arg ⟨fr,hp⟩ x=.ptr id off)(N:AS.arg ⟨fr,hp⟩ y=.d r)(s:hp[id]? = some (.var U (v.map .d)))(L:Tab P t d 1 b z)(q:One hp (.d r))(F:Vm v off [r]=some vn)(Z:GZ hp id (.var U (vn.map .d))=some H)
  (h:AWl P s0 n ops Q rest ⟨fr,H⟩):AWl P s0 n ops Q (o::rest) ⟨fr,hp⟩:=by
 obtain⟨A,B⟩:=QF F;have O:off<v.length:=B;refine Qk E T Y C N s L q O ?_;rw[Fp Z,A]at h
 have:Ue v off [r]=v.set off r:=by
  unfold Ue;exact Zjg
 rw[this]at h;exact h
theorem AWl.app{t T F sz bytes id m b e:Nat}(E:o.op=.call { callee:=.builtin .append,args:=#[x,y],argTypes:=#[t,t] })(B:o.dst=some e)(A:o.guard=none)(C:AS.arg ⟨fr,hp⟩ x=.own id)(N:HV hp (AS.arg ⟨fr,hp⟩ y)=some (slD F sz ud))(s:hp[id]? = some (.row T sz vm))(L:Tab P t (.slice T) m b u)(i:Tab P T d sz bytes z)(G:z.cells.size=sz)(q:Nat.blt e n=true)(R:(vm.length+ud.length)*bytes<=140737488355328)(M:vm.length+ud.length<=4611686018427387904)
  (p:JT id (slD T sz vm) fr=some vc) (g:PlainHp id hp) (Z:GZ hp id (.row T sz (vm++ud))=some H) (h:AWl P s0 n ops Q rest ⟨(e,.own id)::vc,H⟩):AWl P s0 n ops Q (o::rest) ⟨fr,hp⟩:=by
 refine Tt E A C N s L i G (by rw[B];exact q) R M ?_;rw[Fp Z,SG p]at h;simp only[AS.appd,AS.put,B,FK g.ok];exact h
theorem Aav{t T m b s bytes k e:Nat}(E:o.op=.buildSlice t 0 #[])(p:o.dst=some e)(C:o.guard=none)(L:Tab P t (.slice T) m b u)(i:Tab P T d s bytes z)(F:Nat.beq T 335=false)(q:Nat.blt 0 s=true)(A:Nat.blt e n=true)(B:HT hp=some k)(Z:Gd hp (.row T s [])=some H)(h:AWl P s0 n ops Q rest ⟨(e,.own k)::fr,H⟩):AWl P s0 n ops Q (o::rest) ⟨fr,hp⟩:=by
 refine A1H E C L i (YaI F) (by simpa[Ybh]using q) (by rw[p];exact A) ?_;exact ZhN
theorem A8x{t T m b s bytes k e:Nat}(G:o.op=.makeSlice t x y)(p:o.dst=some e)(E:o.guard=none)(C:AS.arg ⟨fr,hp⟩ x=.d (ex (.int .i64 0)))(N:AS.arg ⟨fr,hp⟩ y=.d (ex (.int .i64 a)))(L:Tab P t (.slice T) m b u)(i:Tab P T d s bytes z)(I:0<=a)(F:a<=1000000000)(R:Nat.ble bytes 65536=true)(J:Nat.beq T 335=false)(q:Nat.blt 0 s=true)(A:Nat.blt e n=true)(B:HT hp=some k)(Z:Gd hp (.row T s [])=some H)(h:AWl P s0 n ops Q rest ⟨(e,.own k)::fr,H⟩):AWl P s0 n ops Q (o::rest) ⟨fr,hp⟩:=by
 refine A4j G E C N L i I F (YbB R) (YaI J) (by simpa[Ybh]using q) (by rw[p];exact A) ?_;exact ZhN
theorem AWp.dr{id:Nat}{L:List Oper}(x:DrawOk P s0 n id vZ L vl Q)(q:List (List (Nat×Nat)))(u:List (List Nat))(rs:List HR)(A:(q.length==u.length&&q.length==rs.length&&Nat.ble rs.length L.length)=true)(C:Eg L (Ge 0 q u)=true)(e:HI L q.length n=true)(steps:HSteps P ⟨fr,hp⟩ rs L q rs)
  (l:Wv fr hp rs.length L rs=some vf) (tail:AWl P s0 n L.toArray Q (L.drop q.length) vf):AWp P s0 n (.region id vZ true) vl ⟨fr,hp⟩:=by
 refine A6W x q u rs A C e steps ?_;simp only[Yam,Ycw]at A;rw[A.1.2,<-QS l rfl,<-A.1.2];exact tail
end
section
variable {P:Program} {hp:List Ow} {o:Oper} {arg:Operand->AV}
theorem A3U(E:o.op=.load t x)(C:arg x=.d (Fg T v))(L:Tab P t d n b z)(e:Fa d=true)(V:PM n v=some vn):Quiet P hp o arg (.d (AQ vn)):=by
 obtain⟨q,y⟩:=Nh V;rw[q];exact Ls E C L e y
theorem A14(E:o.op=.load t x)(C:arg x=.d (Fg T v))(L:Tab P t d n b z)(e:Fa d=false)(V:atO 0 v=some r):Quiet P hp o arg (.d r):=by
 obtain⟨q,y⟩:=Wt V;rw[q];exact NY E C L e y
theorem A3V(E:o.op=.load t x)(C:arg x=.ptr m c)(s:hp[m]? = some (.var T (v.map .d)))(L:Tab P t d n b z)(e:Fa d=true)(V:A4I c n v=some vn):Quiet P hp o arg (.d (AQ vn)):=by
 obtain⟨q,y⟩:=A1O V;rw[q];exact Zk E C s L e (Ydc y)
theorem A15(E:o.op=.load t x)(C:arg x=.ptr m c)(s:hp[m]? = some (.var T (v.map .d)))(L:Tab P t d n b z)(e:Fa d=false)(V:atO c v=some r):Quiet P hp o arg (.d r):=by
 obtain⟨q,y⟩:=Wt V;rw[q];exact NZ E C s L e y
theorem Quiet.ext{i:Nat}(E:o.op=.extract x i)(C:arg x=.d (Gb v))(V:atO i v=some r):Quiet P hp o arg (.d r):=by
 obtain⟨b,y⟩:=Wt V;rw[b];exact Quiet.extract E C y
theorem A17(E:o.op=.fieldAddr t x n)(C:arg x=.d (Fg k v))(A:Tab P t (.struct vV) b T z)(p:vV[n]? = some ub)(a:Tab P ub.type d m c u)(h:Nat.beq m 0=false)(V:Qa ub.offset v=some vn):Quiet P hp o arg (.d (Fg k vn)):=by
 obtain⟨q,y⟩:=NF V;rw[q];exact Oc E C A p a (YaI h)
theorem A16(E:o.op=.fieldAddr t x n)(C:arg x=.ptr k g)(q:Tab P t (.struct vV) b T z)(p:vV[n]? = some ub)(a:Tab P ub.type d m c u)(h:Nat.beq m 0=false):Quiet P hp o arg (.ptr k (g+ub.offset)):=
 WL E C q p a (YaI h)
end
def CQ:BinOp->Int->Int->Prop
 |.eql,a,b=>a=b
 |.neq,a,b=>a≠b
 |.lss,a,b=>a<b
 |.leq,a,b=>a<=b
 |.gtr,a,b=>b<a
 |.geq,a,b=>b<=a
 |_,_,_=>False
def Uv:BinOp->Bool
 |.eql |.neq |.lss |.leq |.gtr |.geq=>true
 |_=>false
section
variable {P:Program} {hp:List Ow} {o:Oper} {arg:Operand->AV}
theorem A18(q:o.op=.binOp vW t x y U)(E:Uv vW=true)(C:arg x=.d (ex (.int i a)))(N:arg y=.d (ex (.int i j)))(F:CQ vW a j):Quiet P hp o arg (.d (ex (.bool true))):=by
 refine Pt q C N ?_;cases vW<;>first | (simp only[CQ]at F;simp[YJ,F];done) | (simp only[CQ]at F;simp[YJ];omega) | exact absurd E ZbL
theorem A19(q:o.op=.binOp vW t x y U)(E:Uv vW=true)(C:arg x=.d (ex (.int i a)))(N:arg y=.d (ex (.int i j)))(F:¬CQ vW a j):Quiet P hp o arg (.d (ex (.bool false))):=by
 refine Pt q C N ?_;cases vW<;>first | (simp only[CQ]at F;simp[YJ,F];done) | (simp only[CQ]at F;simp[YJ];omega) | exact absurd E ZbL
theorem WK{a:e}(E:o.op=.indexAddr t x y)(C:HV hp (arg x)=some (slD k g ((a::vv).map vJ)))(N:arg y=.d (ex (.int i 0)))(L:Tab P t (.slice n) b T z)(q:Tab P n d m c u)(A:m=g):Quiet P hp o arg (.d (Fg k (vJ a))):=
 Quiet.index (P:=P) (hp:=hp) E C N L q A ZbG ZbV
theorem Zl{q n b g B T s i:Nat}(E:o.op=.slice t x (some y) none none)(C:HV hp (arg x)=some (slD T s (vv.map vJ)))(N:arg y=.d (ex (.int .i64 (i:Nat))))(L:Tab P t (.slice q) n b z)(a:Tab P q d g B u)(F:g=s)(J:i<=vv.length):Quiet P hp o arg (.d (slD T s ((vv.drop i).map vJ))):=by
 have h:=Quiet.slice (P:=P) (hp:=hp) (i:=(i:Nat)) (j:=((vv.map vJ).length:Nat)) E C L a F (.inl ⟨y,rfl,N⟩) (.inr ⟨rfl,rfl⟩) ZbG ZiB ZbG
 have A:((vv.map vJ).take (((vv.map vJ).length:Nat):Int).toNat).drop ((i:Nat):Int).toNat=(vv.drop i).map vJ:=by
  rw[show(((vv.map vJ).length:Nat):Int).toNat=(vv.map vJ).length from rfl,YaT,YdU];rfl
 rwa [A]at h
theorem Zi{q n b g B T s i:Nat}(E:o.op=.slice t x none (some y) none)(C:HV hp (arg x)=some (slD T s (vv.map vJ)))(N:arg y=.d (ex (.int .i64 (i:Nat))))(L:Tab P t (.slice q) n b z)(a:Tab P q d g B u)(F:g=s)(J:i<=vv.length):Quiet P hp o arg (.d (slD T s ((vv.take i).map vJ))):=by
 have h:=Quiet.slice (P:=P) (hp:=hp) (i:=0) (j:=(i:Nat)) E C L a F (.inr ⟨rfl,rfl⟩) (.inl ⟨y,rfl,N⟩) ZbG ZbG ZiB
 have A:((vv.map vJ).take ((i:Nat):Int).toNat).drop ((0:Nat):Int).toNat=(vv.take i).map vJ:=by
  show((vv.map vJ).take i).drop 0=_;rw[YaP,YdV]
 exact A▸h
end
theorem IK(f:e->List D)(l:List e)(a:e):l.map f++[f a]=(l++[a]).map f:=by simp
theorem Aat{s0:An}{rest:List Oper}(p:va.dst=some b)(T:va.guard=none)(Z:BO va.op=true)(e:Nat.blt b n=true)(h:∃r,Quiet P H va (AS.arg ⟨vc,H⟩) r/\AWl P s0 n vZ vl rest ⟨(b,r)::vc,H⟩):AWl P s0 n vZ vl (va::rest) ⟨vc,H⟩:=by
 obtain⟨r,q,A⟩:=h;exact AWl.q p T Z e q A
theorem A8w{s0:An}{rest:List Oper}(B:va.guard=some (T,o))(N:(vZ[T]?).bind (·.dst)=some m)(I:Ch vc m=some (.d (ex (.bool o))))(C:Nat.blt m n=true)(p:va.dst=some b)(Z:BO va.op=true)(e:Nat.blt b n=true)(h:∃r,Quiet P H va (AS.arg ⟨vc,H⟩) r/\AWl P s0 n vZ vl rest ⟨(b,r)::vc,H⟩):AWl P s0 n vZ vl (va::rest) ⟨vc,H⟩:=by
 obtain⟨r,q,A⟩:=h;exact Aas B N I C p Z e q A
def Rv:List HR->HR->Option (List HR)
 |[],x=>some [x]
 |o::l,x=>match Rv l x with
  |some r=>some (o::r)
  |none=>none
theorem Xx:∀{l:List HR} {x:HR} {r:List HR},Rv l x=some r->r=l++[x]
 |[],x,r,h=>by cases h;rfl
 |o::l,x,r,h=>by
  unfold Rv at h;split at h
  .rename_i q V
   cases h;rw[Xx V];rfl
  .cases h
def HS(P:Program)(c:AS)(K:List HR->Prop):List HR->List Oper->List (List (Nat×Nat))->Prop
 |v,_,[]=>K v
 |v,o::L,e::q=>∃r,HStep P c v e o r/\∃U,Rv v r=some U/\HS P c K U L q
 |_,[],_::_=>False
def NE:Nat->List Oper->List (List (Nat×Nat))->Bool
 |_,_,[]=>true
 |i,o::L,e::q=>e.all (λp=>Nat.blt p.2 i)&&(match o.guard with |some (j,_)=>Nat.blt j i |none=>true)&&NE (i+1) L q
 |_,[],_::_=>false
theorem UJ{A J:List HR}(h:∀p∈vw,p.2<A.length):DT vf (A++J) vw=DT vf A vw:=by
 funext x
 cases x with
 |tmp t=>
  show(match vw.find? (λp=>p.1==t)with
   |some p=>match (A++J)[p.2]? with
    |some h=>h.val
    |none=>.d CC
   |none=>_)=(match vw.find? (λp=>p.1==t)with
   |some p=>match A[p.2]? with
    |some h=>h.val
    |none=>.d CC
   |none=>_)
  cases q:vw.find? (λp=>p.1==t)with
  |none=>rfl
  |some p=>
   simp only;rw[Yav (h p (Ybt q))]
 |const v=>rfl
 |global g=>rfl
 |func f=>rfl
theorem HStep.more{acc J:List HR}{r:HR}(h:HStep P vf acc vw va r)(a:∀p∈vw,p.2<acc.length)(B:∀j b,va.guard=some (j,b)->j<acc.length):HStep P vf (acc++J) vw va r:=by
 cases r with
 |av r=>
  rcases h with⟨q,A⟩ | ⟨j,b,c,q,A,h3⟩
  .exact .inl ⟨q,by rw[UJ a];exact A⟩
  .refine .inr ⟨j, b, c, q, by rw [Yav (B j b q)]; exact A, ?_⟩
   rw[UJ a];exact h3
 |new T f=>exact h
theorem Zu{P:Program}{σ:AS}{K:List HR->Prop}:∀{es:List (List (Nat×Nat))} {L:List Oper} {acc:List HR},NE acc.length L es=true->HS P σ K acc L es->∃more,more.length=es.length/\HSteps P σ (acc++more) L es more/\K (acc++more)
 | [],L,acc,_,h=>by
  refine ⟨[],rfl,HSteps.nil,?_⟩
  rw [YbC]
  cases L<;>exact h
 | e::es,[],acc,he,h=>by cases he
 | e::es,o::L,acc,he,h=>by
  obtain ⟨r,h1,acc',h2,h3⟩:=h
  have e1:=Xx h2
  subst e1
  simp only [NE,Yam] at he
  obtain ⟨⟨he1,he2⟩,he3⟩:=he
  obtain ⟨more,h4,h5,h6⟩:=Zu (acc:=acc++[r]) (by simpa using he3) h3
  rw [Yaf,List.singleton_append] at h5 h6
  refine ⟨r::more,by simp [h4],⟨h1.more (λp hp=>?_) λj b hj=>?_,h5⟩,h6⟩
  .have:=Yaj.1 he1 p hp
   simpa [Ybh] using this
  .rw [hj] at he2
   simpa [Ybh] using he2
theorem Re{P:Program}{s0:An}{n:Nat}{Q Q0:Exit->AS->Prop}{fr:List (Nat×AV)}{hp:List Ow}{id:Nat}{L0:Array Oper}{L:List Oper}(hm:DrawOk P s0 n id L0 L Q0 Q)(es:List (List (Nat×Nat)))(bs:List (List Nat))(hlen:(es.length==bs.length&&Nat.ble es.length L.length)=true)(hok:Eg L (Ge 0 es bs)=true)(hd:HI L es.length n=true)(hlt:NE 0 L es=true)
  (h:HS P ⟨fr,hp⟩ (λrs=>∃τ,Wv fr hp es.length L rs=some τ/\AWl P s0 n L.toArray Q (L.drop es.length) τ) [] L es):AWp P s0 n (.region id L0 true) Q0 ⟨fr,hp⟩:=by
 obtain ⟨rs,h1,h2,τ,h3,h4⟩:=Zu (acc:=[]) hlt h
 simp only [Ycs] at h2 h3
 simp only [Yam,Ycw] at hlen
 exact AWp.dr hm es bs rs (by simp only [Yam,Ycw];exact ⟨⟨hlen.1,h1.symm⟩,by rw [h1];exact hlen.2⟩) hok hd h2 (by rw [h1];exact h3) h4
section
variable {P:Program} {hp:List Ow} {arg:Operand->AV} {dd:Option Tmp} {ty:TypeId} {ps:String} {af:Array Edge} {gd:Option (Nat×Bool)}
theorem A1e(C:HV hp (arg x)=some (slD m c vm))(L:Tab P t (.slice n) b T z):Quiet P hp ⟨dd,.call { callee:=.builtin .len,args:=#[x],argTypes:=#[t] },ty,ps,af,gd⟩ arg (.d (ex (.int .i64 vm.length))):=Quiet.len (o:=⟨dd,.call { callee:=.builtin .len,args:=#[x],argTypes:=#[t] },ty,ps,af,gd⟩) rfl C L
theorem Bj{F:Type}{e n b T s:Nat}{f:F->List D}{l:List F}(C:HV hp (arg x)=some (slD T s (l.map f)))(L:Tab P t (.slice e) n b z):Quiet P hp ⟨dd,.call { callee:=.builtin .len,args:=#[x],argTypes:=#[t] },ty,ps,af,gd⟩ arg (.d (ex (.int .i64 (l.length:Nat)))):=A13 (o:=⟨dd,.call { callee:=.builtin .len,args:=#[x],argTypes:=#[t] },ty,ps,af,gd⟩) rfl C L
theorem Ir{f:e->List D}{a:e}{l:List e}(C:HV hp (arg x)=some (slD k g ((a::l).map f)))(N:arg y=.d (ex (.int i 0)))(L:Tab P t (.slice n) b T z)(q:Tab P n d m c u)(A:m=g):Quiet P hp ⟨dd,.indexAddr t x y,ty,ps,af,gd⟩ arg (.d (Fg k (f a))):=WK (o:=⟨dd,.indexAddr t x y,ty,ps,af,gd⟩) rfl C N L q A
theorem Oh(C:HV hp (arg x)=some (slD k g (vv.map vJ)))(N:arg y=.d (ex (.int .i64 (vk:Nat))))(L:Tab P t (.slice n) b T z)(a:Tab P n d m c u)(q:m=g)(J:vk<=vv.length):Quiet P hp ⟨dd,.slice t x (some y) none none,ty,ps,af,gd⟩ arg (.d (slD k g ((vv.drop vk).map vJ))):=Zl (o:=⟨dd,.slice t x (some y) none none,ty,ps,af,gd⟩) rfl C N L a q J
theorem Od(C:HV hp (arg x)=some (slD k g (vv.map vJ)))(N:arg y=.d (ex (.int .i64 (vk:Nat))))(L:Tab P t (.slice n) b T z)(a:Tab P n d m c u)(q:m=g)(J:vk<=vv.length):Quiet P hp ⟨dd,.slice t x none (some y) none,ty,ps,af,gd⟩ arg (.d (slD k g ((vv.take vk).map vJ))):=Zi (o:=⟨dd,.slice t x none (some y) none,ty,ps,af,gd⟩) rfl C N L a q J
theorem CD{F:Type}[Inhabited F]{e n b g q T s k:Nat}{f:F->List D}{l:List F}(C:HV hp (arg x)=some (slD T s (l.map f)))(N:arg y=.d (ex (.int i (k:Nat))))(L:Tab P t (.slice e) n b z)(a:Tab P e d g q u)(A:g=s)(B:k<l.length):Quiet P hp ⟨dd,.indexAddr t x y,ty,ps,af,gd⟩ arg (.d (Fg T (f (l.getD k default)))):=WJ (o:=⟨dd,.indexAddr t x y,ty,ps,af,gd⟩) rfl C N L a A B
theorem PA{T U:TypeId}(C:arg x=.d (ex (.int .i64 a)))(N:arg y=.d (ex (.int .i64 j)))(q:-9223372036854775808<=a+j)(A:a+j<=9223372036854775807):Quiet P hp ⟨dd,.binOp .add T x y U,ty,ps,af,gd⟩ arg (.d (ex (.int .i64 (a+j)))):=Quiet.add (o:=⟨dd,.binOp .add T x y U,ty,ps,af,gd⟩) rfl C N q A
theorem Pu(C:arg x=.d (ex (.int .i64 a)))(N:arg y=.d (ex (.int .i64 j)))(q:-9223372036854775808<=a-j)(A:a-j<=9223372036854775807):Quiet P hp ⟨dd,.binOp .sub t x y U,ty,ps,af,gd⟩ arg (.d (ex (.int .i64 (a-j)))):=Quiet.sub (o:=⟨dd,.binOp .sub t x y U,ty,ps,af,gd⟩) rfl C N q A
theorem WP{T U:TypeId}(C:arg x=.d (ex (.int .i64 a)))(N:arg y=.d (ex (.int .i64 j)))(q:-9223372036854775808<=a*j)(A:a*j<=9223372036854775807):Quiet P hp ⟨dd,.binOp .mul T x y U,ty,ps,af,gd⟩ arg (.d (ex (.int .i64 (a*j)))):=Quiet.mul (o:=⟨dd,.binOp .mul T x y U,ty,ps,af,gd⟩) rfl C N q A
theorem Ij(C:arg x=.d (ex (.int .i64 (n:Nat))))(N:arg y=.d (ex (.int .i64 1)))(q:(n:Int)<9223372036854775807):Quiet P hp ⟨dd,.binOp .add t x y U,ty,ps,af,gd⟩ arg (.d (ex (.int .i64 ((n+1:Nat):Int)))):=Quiet.succ (o:=⟨dd,.binOp .add t x y U,ty,ps,af,gd⟩) rfl C N q
theorem WM(C:arg x=.d (ex (.int .i64 a)))(N:arg y=.d (ex (.int .i64 j)))(d:0<=a)(q:a<=9223372036854775807)(E:0<j):Quiet P hp ⟨dd,.binOp .quo t x y U,ty,ps,af,gd⟩ arg (.d (ex (.int .i64 (a/j)))):=Quiet.quo (o:=⟨dd,.binOp .quo t x y U,ty,ps,af,gd⟩) rfl C N d q E
theorem SY(C:arg x=.d (ex (.int i a)))(N:arg y=.d (ex (.int i j)))(d:0<=a)(E:0<j):Quiet P hp ⟨dd,.binOp .rem t x y U,ty,ps,af,gd⟩ arg (.d (ex (.int i (a%j)))):=Quiet.rem (o:=⟨dd,.binOp .rem t x y U,ty,ps,af,gd⟩) rfl C N d E
theorem QU(C:arg x=.d (ex (.int i a)))(N:arg y=.d (ex (.int i j)))(E:j≠0):Quiet P hp ⟨dd,.binOp .rem t x y U,ty,ps,af,gd⟩ arg (.d (ex (.int i (a.tmod j)))):=A12 (o:=⟨dd,.binOp .rem t x y U,ty,ps,af,gd⟩) rfl C N E
theorem WT(C:arg x=.d (ex (.int i a)))(N:arg y=.d (ex (.int i j)))(F:YJ vW a j=some o):Quiet P hp ⟨dd,.binOp vW t x y U,ty,ps,af,gd⟩ arg (.d (ex (.bool o))):=Pt (o:=⟨dd,.binOp vW t x y U,ty,ps,af,gd⟩) rfl C N F
theorem GW(E:Uv vW=true)(C:arg x=.d (ex (.int i a)))(N:arg y=.d (ex (.int i j)))(F:CQ vW a j):Quiet P hp ⟨dd,.binOp vW t x y U,ty,ps,af,gd⟩ arg (.d (ex (.bool true))):=A18 (o:=⟨dd,.binOp vW t x y U,ty,ps,af,gd⟩) rfl E C N F
theorem Il(E:Uv vW=true)(C:arg x=.d (ex (.int i a)))(N:arg y=.d (ex (.int i j)))(F:¬CQ vW a j):Quiet P hp ⟨dd,.binOp vW t x y U,ty,ps,af,gd⟩ arg (.d (ex (.bool false))):=A19 (o:=⟨dd,.binOp vW t x y U,ty,ps,af,gd⟩) rfl E C N F
theorem WO(C:arg x=.d (ex (.bool o))):Quiet P hp ⟨dd,.unOp .not t x,ty,ps,af,gd⟩ arg (.d (ex (.bool (!o)))):=Quiet.not (o:=⟨dd,.unOp .not t x,ty,ps,af,gd⟩) rfl C
theorem HK(C:arg y=f)(F:arg x=.d (ex (.bool true))):Quiet P hp ⟨dd,.pick x y vS,ty,ps,af,gd⟩ arg f:=Qh (o:=⟨dd,.pick x y vS,ty,ps,af,gd⟩) rfl C F
theorem JX(N:arg vS=f)(F:arg x=.d (ex (.bool false))):Quiet P hp ⟨dd,.pick x y vS,ty,ps,af,gd⟩ arg f:=Qi (o:=⟨dd,.pick x y vS,ty,ps,af,gd⟩) rfl N F
theorem Ra{k q:IntKind}(C:arg x=.d (ex (.int k a)))(p:Tab P t d n b z)(i:Tab P U (.int q) T m u):Quiet P hp ⟨dd,.convert t U x,ty,ps,af,gd⟩ arg (.d (ex (.int q (q.wrap a)))):=SW (o:=⟨dd,.convert t U x,ty,ps,af,gd⟩) rfl C p i
theorem QY(C:arg x=.d (Fg k v))(q:Tab P t (.struct vV) b T z)(p:vV[n]? = some ub)(a:Tab P ub.type d m c u)(h:Nat.beq m 0=false)(V:Qa ub.offset v=some vn):Quiet P hp ⟨dd,.fieldAddr t x n,ty,ps,af,gd⟩ arg (.d (Fg k vn)):=A17 (o:=⟨dd,.fieldAddr t x n,ty,ps,af,gd⟩) rfl C q p a h V
theorem Ik(C:arg x=.ptr k g)(q:Tab P t (.struct vV) b T z)(p:vV[n]? = some ub)(a:Tab P ub.type d m c u)(h:Nat.beq m 0=false):Quiet P hp ⟨dd,.fieldAddr t x n,ty,ps,af,gd⟩ arg (.ptr k (g+ub.offset)):=A16 (o:=⟨dd,.fieldAddr t x n,ty,ps,af,gd⟩) rfl C q p a h
theorem Lv{ds r:List D}(C:arg x=.ptr m c)(s:hp[m]? = some (.var T (ds.map .d)))(L:Tab P t d n b z)(e:Fa d=true)(V:A4I c n ds=some r):Quiet P hp ⟨dd,.load t x,ty,ps,af,gd⟩ arg (.d (AQ r)):=A3V (o:=⟨dd,.load t x,ty,ps,af,gd⟩) rfl C s L e V
theorem BU{n b T id off:Nat}{ds:List D}(C:arg x=.ptr id off)(s:hp[id]? = some (.var T (ds.map .d)))(L:Tab P t d n b z)(e:Fa d=false)(V:atO off ds=some r):Quiet P hp ⟨dd,.load t x,ty,ps,af,gd⟩ arg (.d r):=A15 (o:=⟨dd,.load t x,ty,ps,af,gd⟩) rfl C s L e V
theorem JY{n b T id off:Nat}{r:AV}(C:arg x=.ptr id off)(s:hp[id]? = some (.var T R))(L:Tab P t d n b z)(e:Fa d=false)(F:R[off]? = some r):Quiet P hp ⟨dd,.load t x,ty,ps,af,gd⟩ arg r:=NX (o:=⟨dd,.load t x,ty,ps,af,gd⟩) rfl C s L e F
theorem Mh(C:arg x=.d (Fg T v))(L:Tab P t d n b z)(e:Fa d=true)(h:v.length=n):Quiet P hp ⟨dd,.load t x,ty,ps,af,gd⟩ arg (.d (AQ v)):=WI (o:=⟨dd,.load t x,ty,ps,af,gd⟩) rfl C L e h
theorem Tb(C:arg x=.d (Fg T v))(L:Tab P t d n b z)(e:Fa d=true)(V:PM n v=some vn):Quiet P hp ⟨dd,.load t x,ty,ps,af,gd⟩ arg (.d (AQ vn)):=A3U (o:=⟨dd,.load t x,ty,ps,af,gd⟩) rfl C L e V
theorem Gi(C:arg x=.d (Fg T v))(L:Tab P t d n b z)(e:Fa d=false)(V:atO 0 v=some r):Quiet P hp ⟨dd,.load t x,ty,ps,af,gd⟩ arg (.d r):=A14 (o:=⟨dd,.load t x,ty,ps,af,gd⟩) rfl C L e V
theorem Aab{ds:List D}{k:IntKind}{i:Int}(C:arg x=.d (AQ ds))(N:arg y=.d (ex (.int k i)))(L:Tab P t (.array c n) b T z)(a:Tab P n d 1 m u)(e:Fa d=false)(q:0<=i)(J:i<c)(h:i.toNat<ds.length):Quiet P hp ⟨dd,.index t x y,ty,ps,af,gd⟩ arg (.d (DM ds i.toNat)):=UR (o:=⟨dd,.index t x y,ty,ps,af,gd⟩) rfl C N L a e q J h
theorem A1f(C:arg x=.d (Gb v))(V:atO n v=some r):Quiet P hp ⟨dd,.extract x n,ty,ps,af,gd⟩ arg (.d r):=Quiet.ext (o:=⟨dd,.extract x n,ty,ps,af,gd⟩) rfl C V
theorem A6B(L:Tab P t (.struct vV) n b z)(g:FieldsT P vV.toList vw)(q:HO z.cells.toList=true)(V:PartsA hp arg ue uv)(p:Hj (λi=>vw[i]?) (Wc z.cells.toList) uv=some v):Quiet P hp ⟨dd,.build t ue.toArray,ty,ps,af,gd⟩ arg (.d (AQ v)):=Quiet.build (o:=⟨dd,.build t ue.toArray,ty,ps,af,gd⟩) rfl L g q V p
theorem Zo(L:Tab P t (.array n U) b T z)(a:Tab P U d m c u)(q:HO z.cells.toList=true)(V:PartsA hp arg ue uv)(p:Hj (λi=>some (i*m,m)) (Wc z.cells.toList) uv=some v):Quiet P hp ⟨dd,.build t ue.toArray,ty,ps,af,gd⟩ arg (.d (AQ v)):=SX (o:=⟨dd,.build t ue.toArray,ty,ps,af,gd⟩) rfl L a q V p
theorem MC{len n b g B:Nat}{parts:List (Nat×Operand)}{r:List (Nat×List D)}(L:Tab P t (.slice U) n b z)(a:Tab P U d g B u)(C:0<len)(h:0<g)(A:u.cells.size=g)(T:len*g<=16777216)(q:HO u.cells.toList=true)(V:PartsA hp arg parts r)(p:Hj (λi=>some (i*g,g)) (List.replicate (len*g) CC) r=some v):Quiet P hp ⟨dd,.buildSlice t len parts.toArray,ty,ps,af,gd⟩ arg (.d (slD U g (FE g len v))):=Quiet.buildSlice (o:=⟨dd,.buildSlice t len parts.toArray,ty,ps,af,gd⟩) rfl L a C h A T q V p
theorem A6x{lo hi:Option Operand}{i j:Int}(C:HV hp (arg x)=some (slD k g vm))(L:Tab P t (.slice n) b T z)(a:Tab P n d m c u)(A:m=g)(B:(∃y,lo=some y/\arg y=.d (ex (.int .i64 i)))\/(lo=none/\i=0))(E:(∃y,hi=some y/\arg y=.d (ex (.int .i64 j)))\/(hi=none/\j=vm.length))(q:0<=i)(r:i<=j)(W:j<=vm.length):Quiet P hp ⟨dd,.slice t x lo hi none,ty,ps,af,gd⟩ arg (.d (slD k g ((vm.take j.toNat).drop i.toNat))):=Quiet.slice (o:=⟨dd,.slice t x lo hi none,ty,ps,af,gd⟩) rfl C L a A B E q r W
theorem A1d(C:arg x=.d (ex (.int i a)))(N:arg y=.d (ex (.int i j))):Quiet P hp ⟨dd,.call { callee:=.builtin .max,args:=#[x,y],argTypes:=vs },ty,ps,af,gd⟩ arg (.d (ex (.int i (Max.max a j)))):=Quiet.max (o:=⟨dd,.call { callee:=.builtin .max,args:=#[x,y],argTypes:=vs },ty,ps,af,gd⟩) rfl C N
theorem WQ(C:arg x=.d (ex (.int i a)))(N:arg y=.d (ex (.int i j))):Quiet P hp ⟨dd,.call { callee:=.builtin .min,args:=#[x,y],argTypes:=vs },ty,ps,af,gd⟩ arg (.d (ex (.int i (Min.min a j)))):=Quiet.min (o:=⟨dd,.call { callee:=.builtin .min,args:=#[x,y],argTypes:=vs },ty,ps,af,gd⟩) rfl C N
theorem A1c(C:arg x=.d (ex (.int .u8 (n:Nat))))(N:arg y=.d (ex (.int .u8 (b:Nat))))(l:n<256)(E:b<256):Quiet P hp ⟨dd,.binOp .or t x y U,ty,ps,af,gd⟩ arg (.d (ex (.int .u8 ((n ||| b:Nat):Int)))):=A3T (o:=⟨dd,.binOp .or t x y U,ty,ps,af,gd⟩) rfl C N l E
theorem BQ{f:Operand}(p:arg f=.d (ex (.func (.func ve) #[] #[])))(F:Abs P ve v r)(l:ArgsLe hp arg vN v):Quiet P hp ⟨dd,.call { callee:=.value f,args:=vN.toArray,argTypes:=vs },ty,ps,af,gd⟩ arg (.d r):=Quiet.call (o:=⟨dd,.call { callee:=.value f,args:=vN.toArray,argTypes:=vs },ty,ps,af,gd⟩) rfl p F l
theorem AE{r:AV}(C:arg x=r):Quiet P hp ⟨dd,.move x,ty,ps,af,gd⟩ arg r:=Quiet.move (.inl rfl) C
theorem Bg{r:AV}(C:arg x=r):Quiet P hp ⟨dd,.assign x,ty,ps,af,gd⟩ arg r:=Quiet.move (.inr rfl) C
end
section
variable {P:Program} {s0:An} {n:Nat} {ops:Array Oper} {Q:Exit->AS->Prop} {rest:List Oper} {fr:List (Nat×AV)} {hp:List Ow} {ty:TypeId} {ps:String} {af:Array Edge}
theorem Aaq{m b k A:Nat}(L:Tab P t d m b z)(i:Nat.beq t 335=false)(q:HO z.cells.toList=true)(e:Nat.blt A n=true)(F:exO z.cells.toList=some v)(B:HT hp=some k)(Z:Gd hp (.var t (v.map .d))=some H)(h:AWl P s0 n ops Q rest ⟨(A,.ptr k 0)::fr,H⟩):AWl P s0 n ops Q (⟨some A,.alloc t,ty,ps,af,none⟩::rest) ⟨fr,hp⟩:=AWl.al (o:=⟨some A,.alloc t,ty,ps,af,none⟩) rfl rfl rfl L i q e F B Z h
theorem Aap{k q:Nat}(C:AS.arg ⟨fr,hp⟩ x=.d (AQ v))(i:Nat.beq t 335=false)(e:Nat.blt q n=true)(B:HT hp=some k)(Z:Gd hp (.var t (v.map .d))=some H)(h:AWl P s0 n ops Q rest ⟨(q,.ptr k 0)::fr,H⟩):AWl P s0 n ops Q (⟨some q,.box t x,ty,ps,af,none⟩::rest) ⟨fr,hp⟩:=Aau (o:=⟨some q,.box t x,ty,ps,af,none⟩) rfl rfl rfl C i e B Z h
theorem Xf{k A:Nat}(C:AS.arg ⟨fr,hp⟩ x=.d (ex z))(q:z.oneCell'=true)(i:Nat.beq t 335=false)(e:Nat.blt A n=true)(B:HT hp=some k)(Z:Gd hp (.var t ([ex z].map .d))=some H)(h:AWl P s0 n ops Q rest ⟨(A,.ptr k 0)::fr,H⟩):AWl P s0 n ops Q (⟨some A,.box t x,ty,ps,af,none⟩::rest) ⟨fr,hp⟩:=A8y (o:=⟨some A,.box t x,ty,ps,af,none⟩) rfl rfl rfl C q i e B Z h
theorem A8s{b id m:Nat}(C:AS.arg ⟨fr,hp⟩ x=.ptr id 0)(N:AS.arg ⟨fr,hp⟩ y=.d (AQ v))(s:hp[id]? = some (.var U R))(L:Tab P t d m b z)(q:v.length=m)(M:R.length=m)(Z:GZ hp id (.var U (v.map .d))=some H)(h:AWl P s0 n ops Q rest ⟨fr,H⟩):AWl P s0 n ops Q (⟨none,.store t x y,ty,ps,af,none⟩::rest) ⟨fr,hp⟩:=A8u (o:=⟨none,.store t x y,ty,ps,af,none⟩) rfl rfl rfl C N s L q M Z h
theorem Oq{b id m off:Nat}(C:AS.arg ⟨fr,hp⟩ x=.ptr id off)(N:AS.arg ⟨fr,hp⟩ y=.d (AQ vn))(s:hp[id]? = some (.var U (v.map .d)))(L:Tab P t d m b z)(q:vn.length=m)(F:Vm v off vn=some xb)(Z:GZ hp id (.var U (xb.map .d))=some H)(h:AWl P s0 n ops Q rest ⟨fr,H⟩):AWl P s0 n ops Q (⟨none,.store t x y,ty,ps,af,none⟩::rest) ⟨fr,hp⟩:=A8v (o:=⟨none,.store t x y,ty,ps,af,none⟩) rfl rfl rfl C N s L q F Z h
theorem De{b id off:Nat}(C:AS.arg ⟨fr,hp⟩ x=.ptr id off)(N:AS.arg ⟨fr,hp⟩ y=.d r)(s:hp[id]? = some (.var U (v.map .d)))(L:Tab P t d 1 b z)(q:One hp (.d r))(F:Vm v off [r]=some vn)(Z:GZ hp id (.var U (vn.map .d))=some H)(h:AWl P s0 n ops Q rest ⟨fr,H⟩):AWl P s0 n ops Q (⟨none,.store t x y,ty,ps,af,none⟩::rest) ⟨fr,hp⟩:=A6X (o:=⟨none,.store t x y,ty,ps,af,none⟩) rfl rfl rfl C N s L q F Z h
theorem EB{t T E s bytes id m b e:Nat}{A r2:List (List D)}(C:AS.arg ⟨fr,hp⟩ x=.own id)(N:HV hp (AS.arg ⟨fr,hp⟩ y)=some (slD E s r2))(B:hp[id]? = some (.row T s A))(L:Tab P t (.slice T) m b u)(i:Tab P T d s bytes z)(F:z.cells.size=s)(q:Nat.blt e n=true)(R:(A.length+r2.length)*bytes<=140737488355328)(M:A.length+r2.length<=4611686018427387904)(p:JT id (slD T s A) fr=some vc)(g:PlainHp id hp)(Z:GZ hp id (.row T s (A++r2))=some H)(h:AWl P s0 n ops Q rest ⟨(e,.own id)::vc,H⟩):AWl P s0 n ops Q (⟨some e,.call { callee:=.builtin .append,args:=#[x,y],argTypes:=#[t,t] },ty,ps,af,none⟩::rest) ⟨fr,hp⟩:=AWl.app (o:=⟨some e,.call { callee:=.builtin .append,args:=#[x,y],argTypes:=#[t,t] },ty,ps,af,none⟩) rfl rfl rfl C N B L i F q R M p g Z h
theorem Xh{t T m b s bytes k e:Nat}(L:Tab P t (.slice T) m b u)(i:Tab P T d s bytes z)(C:Nat.beq T 335=false)(q:Nat.blt 0 s=true)(A:Nat.blt e n=true)(B:HT hp=some k)(Z:Gd hp (.row T s [])=some H)(h:AWl P s0 n ops Q rest ⟨(e,.own k)::fr,H⟩):AWl P s0 n ops Q (⟨some e,.buildSlice t 0 #[],ty,ps,af,none⟩::rest) ⟨fr,hp⟩:=Aav (o:=⟨some e,.buildSlice t 0 #[],ty,ps,af,none⟩) rfl rfl rfl L i C q A B Z h
theorem A8t{t T m b s bytes k e:Nat}(C:AS.arg ⟨fr,hp⟩ x=.d (ex (.int .i64 0)))(N:AS.arg ⟨fr,hp⟩ y=.d (ex (.int .i64 a)))(L:Tab P t (.slice T) m b u)(i:Tab P T d s bytes z)(E:0<=a)(F:a<=1000000000)(R:Nat.ble bytes 65536=true)(G:Nat.beq T 335=false)(q:Nat.blt 0 s=true)(A:Nat.blt e n=true)(B:HT hp=some k)(Z:Gd hp (.row T s [])=some H)(h:AWl P s0 n ops Q rest ⟨(e,.own k)::fr,H⟩):AWl P s0 n ops Q (⟨some e,.makeSlice t x y,ty,ps,af,none⟩::rest) ⟨fr,hp⟩:=A8x (o:=⟨some e,.makeSlice t x y,ty,ps,af,none⟩) rfl rfl rfl C N L i E F R G q A B Z h
theorem Df{d:Nat}(Z:BO ui=true)(e:Nat.blt d n=true)(h:∃r,Quiet P hp ⟨some d,ui,ty,ps,af,none⟩ (AS.arg ⟨fr,hp⟩) r/\AWl P s0 n ops Q rest ⟨(d,r)::fr,hp⟩):AWl P s0 n ops Q (⟨some d,ui,ty,ps,af,none⟩::rest) ⟨fr,hp⟩:=Aat rfl rfl Z e h
theorem PI{d:Nat}(N:(ops[b]?).bind (·.dst)=some T)(I:Ch fr T=some (.d (ex (.bool o))))(A:Nat.blt T n=true)(Z:BO ui=true)(e:Nat.blt d n=true)(h:∃r,Quiet P hp ⟨some d,ui,ty,ps,af,some (b,o)⟩ (AS.arg ⟨fr,hp⟩) r/\AWl P s0 n ops Q rest ⟨(d,r)::fr,hp⟩):AWl P s0 n ops Q (⟨some d,ui,ty,ps,af,some (b,o)⟩::rest) ⟨fr,hp⟩:=A8w rfl N I A rfl Z e h
theorem To{d:Nat}(N:(ops[b]?).bind (·.dst)=some T)(I:Ch fr T=some (.d (ex z)))(B:isB z o=false)(A:Nat.blt T n=true)(e:Nat.blt d n=true)(h:AWl P s0 n ops Q rest ⟨(d,.d (ex undef))::fr,hp⟩):AWl P s0 n ops Q (⟨some d,ui,ty,ps,af,some (b,o)⟩::rest) ⟨fr,hp⟩:=Aar rfl N I B A rfl e h
end
def plO:List Field->Option (List (Nat×Nat))
 |[]=>some []
 |f::l=>match TY A1L f.type with
  |some p=>match plO l with
   |some r=>some ((f.offset,p.n)::r)
   |none=>none
  |none=>none
theorem A5c:∀{l:List Field} {r:List (Nat×Nat)},plO l=some r->FieldsT prog l r
 |[],r,h=>by cases h;exact FieldsT.nil
 |f::l,r,h=>by
  unfold plO at h
  cases L:TY A1L f.type with
  |none=>rw[L]at h;cases h
  |some p=>
   rw[L]at h;simp only at h
   cases V:plO l with
   |none=>rw[V]at h;cases h
   |some B=>
    rw[V]at h;cases h;obtain⟨q,A⟩:=Rl A1N L;rw[q]at A;exact FieldsT.cons A (A5c V)
def PartOk(G:List Ow)(I:AV)(o:List D):Prop:=I=.d (AQ o)\/∃y,HV G I=some y/\One G I/\o=[y]
theorem Az(h:f=.d (AQ v)):PartOk H f v:=.inl h
theorem PartOk.one(h:HV H f=some r)(q:One H f):PartOk H f [r]:=.inr ⟨r,h,q,rfl⟩
def A1R:List (Nat×List D)->Nat×List D->Option (List (Nat×List D))
 |[],x=>some [x]
 |o::l,x=>match A1R l x with
  |some r=>some (o::r)
  |none=>none
theorem Xw:∀{l:List (Nat×List D)} {x:Nat×List D} {r:List (Nat×List D)},A1R l x=some r->r=l++[x]
 |[],x,r,h=>by cases h;rfl
 |o::l,x,r,h=>by
  unfold A1R at h;split at h
  .rename_i q V
   cases h;rw[Xw V];rfl
  .cases h
def PC(G:List Ow)(arg:Operand->AV)(K:List (Nat×List D)->Prop):List (Nat×List D)->List (Nat×Operand)->Prop
 |v,[]=>K v
 |v,(i,x)::l=>∃o,PartOk G (arg x) o/\∃U,A1R v (i,o)=some U/\PC G arg K U l
theorem Ly{G:List Ow}{arg:Operand->AV}{K:List (Nat×List D)->Prop}:∀{l:List (Nat×Operand)} {v:List (Nat×List D)},PC G arg K v l->∃r,PartsA G arg l r/\K (v++r)
 |[],v,h=>⟨[],PartsA.nil,by rw[YbC];exact h⟩
 |(i,x)::l,v,⟨o,q,U,A,B⟩=>by
  have e:=Xw A;subst e;obtain⟨r,Y,n⟩:=Ly B;rw[Yaf,List.singleton_append]at n;exact⟨(i,o)::r,⟨rfl,q,Y⟩,n⟩
def Sx(place:Nat->Option (Nat×Nat)):List D->List (Nat×List D)->Option (List D)
 |S,[]=>some S
 |S,(i,o)::r=>match place i with
  |some (off,size)=>bif Nat.beq o.length size then match Vm S off o with
   |some O=>Sx place O r
   |none=>none else none
  |none=>none
theorem Lf{place:Nat->Option (Nat×Nat)}:∀{r:List (Nat×List D)} {S x:List D},Sx place S r=some x->Hj place S r=some x
 |[],S,x,h=>h
 |(i,o)::r,S,x,h=>by
  unfold Sx at h;unfold Hj
  cases G:place i with
  |none=>rw[G]at h;cases h
  |some q=>
   obtain⟨off,size⟩:=q;rw[G]at h;simp only at h ⊢
   cases E:Nat.beq o.length size with
   |false=>exact Zji
   |true=>
    rw[E]at h;simp only[cond_true]at h
    cases Z:Vm S off o with
    |none=>rw[Z]at h;cases h
    |some O=>
     rw[Z]at h;obtain⟨b,y⟩:=QF Z;have A:=Yao E;have Y:Nat.ble (off+size) S.length=true:=Ydc ZbG;rw[Y,<-b];exact Lf h
section
variable {P:Program} {hp:List Ow} {arg:Operand->AV} {dd:Option Tmp} {ty:TypeId} {ps:String} {af:Array Edge} {gd:Option (Nat×Bool)}
theorem AI(L:Tab prog t (.struct vV) n b z)(g:plO vV.toList=some vw)(q:HO z.cells.toList=true)(u:exO z.cells.toList=some v)(h:PC hp arg (λr=>∃S,Sx (λi=>vw[i]?) v r=some S/\xc (.d (AQ S))) [] ue):∃r,Quiet prog hp ⟨dd,.build t ue.toArray,ty,ps,af,gd⟩ arg r/\xc r:=by
 obtain⟨r,A,S,K,Y⟩:=Ly h;rw[SE u]at K;exact⟨_,A6B L (A5c g) q A (Lf K),Y⟩
theorem LA{len n b g C:Nat}(L:Tab P t (.array len U) n b z)(a:Tab P U d g C u)(q:HO z.cells.toList=true)(B:exO z.cells.toList=some v)(h:PC hp arg (λr=>∃S,Sx (λi=>some (i*g,g)) v r=some S/\xc (.d (AQ S))) [] ue):∃r,Quiet P hp ⟨dd,.build t ue.toArray,ty,ps,af,gd⟩ arg r/\xc r:=by
 obtain⟨r,A,S,K,Y⟩:=Ly h;rw[SE B]at K;exact⟨_,Zo L a q A (Lf K),Y⟩
theorem DG{len n b g E:Nat}(L:Tab P t (.slice U) n b z)(a:Tab P U d g E u)(F:Nat.blt 0 len=true)(B:Nat.blt 0 g=true)(C:u.cells.size=g)(T:Nat.ble (len*g) 16777216=true)(q:HO u.cells.toList=true)(h:PC hp arg (λr=>∃S,Sx (λi=>some (i*g,g)) (List.replicate (len*g) CC) r=some S/\xc (.d (slD U g (FE g len S)))) [] ue):∃r,Quiet P hp ⟨dd,.buildSlice t len ue.toArray,ty,ps,af,gd⟩ arg r/\xc r:=by
 obtain⟨r,A,S,K,Y⟩:=Ly h;exact⟨_,MC L a (by simpa[Ybh]using F) Zeb C (YbB T) q A (Lf K),Y⟩
theorem Cc(C:arg x=.d (AQ v))(L:Tab P t (.slice U) n b z)(a:Tab P U d T m u)(I:v.length=T)(B:Nat.blt 0 T=true)(F:u.cells.size=T)(G:Nat.ble T 16777216=true)(q:HO u.cells.toList=true):Quiet P hp ⟨dd,.buildSlice t 1 #[(0,x)],ty,ps,af,gd⟩ arg (.d (slD U T [v])):=by
 have E:(Nat.beq v.length T&&Nat.ble (0*T+T) (List.replicate (1*T) CC).length)=true:=by
  simp[I]
 have p:Hj (λi=>some (i*T,T)) (List.replicate (1*T) CC) [(0,v)]=some v:=by
  simp only[Hj];rw[E];simp only[cond_true,Ue,Yde];rw[YcD,YbR,Ycs,YaL (by simp[I]),YbC]
 have h:=MC (P:=P) (hp:=hp) (dd:=dd) (ty:=ty) (ps:=ps) (af:=af) (gd:=gd) (len:=1) (parts:=[(0,x)]) (r:=[(0,v)]) L a ZbG Zeb F (by have:=YbB G;omega) q (A3Z C PartsA.nil) p
 have A:FE T 1 v=[v]:=by
  simp only[FE];rw[<-I,YaT]
 rwa [A]at h
theorem Hq{R:HR->Prop}(T:va.guard=none)(h:∃r,Quiet P vf.hp va (DT vf uq vw) r/\R (.av r)):∃r,HStep P vf uq vw va r/\R r:=by
 obtain⟨r,q,A⟩:=h;exact⟨_,HStep.q T q,A⟩
end
section
variable {P:Program} {s0:An} {m:Nat} {ops:Array Oper} {Q:Exit->AS->Prop} {rest:List Oper} {σ:AS} {hp:List Ow} {arg:Operand->AV} {dd:Option Tmp} {ty:TypeId} {ps:String} {af:Array Edge} {gd:Option (Nat×Bool)} {R:AV->Prop} {H:HR->Prop} {acc:List HR} {e:List (Nat×Nat)}
theorem Gk(h:∃r,Quiet P hp ⟨dd,.move x,ty,ps,af,gd⟩ arg r/\R r):∃r,Quiet P hp ⟨dd,.move x,ty,ps,af,gd⟩ arg r/\R r:=h
theorem WY(h:∃r,HStep P σ acc e ⟨dd,.move x,ty,ps,af,gd⟩ r/\H r):∃r,HStep P σ acc e ⟨dd,.move x,ty,ps,af,gd⟩ r/\H r:=h
theorem GC(h:∃r,Quiet P hp ⟨dd,.assign x,ty,ps,af,gd⟩ arg r/\R r):∃r,Quiet P hp ⟨dd,.assign x,ty,ps,af,gd⟩ arg r/\R r:=h
theorem UW(h:∃r,HStep P σ acc e ⟨dd,.assign x,ty,ps,af,gd⟩ r/\H r):∃r,HStep P σ acc e ⟨dd,.assign x,ty,ps,af,gd⟩ r/\H r:=h
theorem Rc(h:∃r,Quiet P hp ⟨dd,.load t x,ty,ps,af,gd⟩ arg r/\R r):∃r,Quiet P hp ⟨dd,.load t x,ty,ps,af,gd⟩ arg r/\R r:=h
theorem Xa(h:∃r,HStep P σ acc e ⟨dd,.load t x,ty,ps,af,gd⟩ r/\H r):∃r,HStep P σ acc e ⟨dd,.load t x,ty,ps,af,gd⟩ r/\H r:=h
theorem Im(h:∃r,Quiet P hp ⟨dd,.fieldAddr n x b,ty,ps,af,gd⟩ arg r/\R r):∃r,Quiet P hp ⟨dd,.fieldAddr n x b,ty,ps,af,gd⟩ arg r/\R r:=h
theorem Ku(h:∃r,HStep P σ acc e ⟨dd,.fieldAddr n x b,ty,ps,af,gd⟩ r/\H r):∃r,HStep P σ acc e ⟨dd,.fieldAddr n x b,ty,ps,af,gd⟩ r/\H r:=h
theorem Om(h:∃r,Quiet P hp ⟨dd,.indexAddr t x y,ty,ps,af,gd⟩ arg r/\R r):∃r,Quiet P hp ⟨dd,.indexAddr t x y,ty,ps,af,gd⟩ arg r/\R r:=h
theorem Kt(h:∃r,HStep P σ acc e ⟨dd,.indexAddr t x y,ty,ps,af,gd⟩ r/\H r):∃r,HStep P σ acc e ⟨dd,.indexAddr t x y,ty,ps,af,gd⟩ r/\H r:=h
theorem A6J{b J v:Option Operand}(h:∃r,Quiet P hp ⟨dd,.slice t x b J v,ty,ps,af,gd⟩ arg r/\R r):∃r,Quiet P hp ⟨dd,.slice t x b J v,ty,ps,af,gd⟩ arg r/\R r:=h
theorem A1o(h:∃r,Quiet P hp ⟨dd,.call { callee:=.builtin .len,args:=uJ,argTypes:=vs },ty,ps,af,gd⟩ arg r/\R r):∃r,Quiet P hp ⟨dd,.call { callee:=.builtin .len,args:=uJ,argTypes:=vs },ty,ps,af,gd⟩ arg r/\R r:=h
theorem A6M(h:∃r,HStep P σ acc e ⟨dd,.call { callee:=.builtin .len,args:=uJ,argTypes:=vs },ty,ps,af,gd⟩ r/\H r):∃r,HStep P σ acc e ⟨dd,.call { callee:=.builtin .len,args:=uJ,argTypes:=vs },ty,ps,af,gd⟩ r/\H r:=h
theorem Aai(h:∃r,Quiet P hp ⟨dd,.call { callee:=.builtin .max,args:=uJ,argTypes:=vs },ty,ps,af,gd⟩ arg r/\R r):∃r,Quiet P hp ⟨dd,.call { callee:=.builtin .max,args:=uJ,argTypes:=vs },ty,ps,af,gd⟩ arg r/\R r:=h
theorem Zv(h:∃r,Quiet P hp ⟨dd,.call { callee:=.value x,args:=uJ,argTypes:=vs },ty,ps,af,gd⟩ arg r/\R r):∃r,Quiet P hp ⟨dd,.call { callee:=.value x,args:=uJ,argTypes:=vs },ty,ps,af,gd⟩ arg r/\R r:=h
theorem Te(h:∃r,HStep P σ acc e ⟨dd,.call { callee:=.value x,args:=uJ,argTypes:=vs },ty,ps,af,gd⟩ r/\H r):∃r,HStep P σ acc e ⟨dd,.call { callee:=.value x,args:=uJ,argTypes:=vs },ty,ps,af,gd⟩ r/\H r:=h
theorem A1p(h:∃r,Quiet P hp ⟨dd,.binOp .add t x y U,ty,ps,af,gd⟩ arg r/\R r):∃r,Quiet P hp ⟨dd,.binOp .add t x y U,ty,ps,af,gd⟩ arg r/\R r:=h
theorem A6Q(h:∃r,HStep P σ acc e ⟨dd,.binOp .add t x y U,ty,ps,af,gd⟩ r/\H r):∃r,HStep P σ acc e ⟨dd,.binOp .add t x y U,ty,ps,af,gd⟩ r/\H r:=h
theorem A6I(h:∃r,Quiet P hp ⟨dd,.binOp .sub t x y U,ty,ps,af,gd⟩ arg r/\R r):∃r,Quiet P hp ⟨dd,.binOp .sub t x y U,ty,ps,af,gd⟩ arg r/\R r:=h
theorem A6L(h:∃r,HStep P σ acc e ⟨dd,.binOp .sub t x y U,ty,ps,af,gd⟩ r/\H r):∃r,HStep P σ acc e ⟨dd,.binOp .sub t x y U,ty,ps,af,gd⟩ r/\H r:=h
theorem Aah(h:∃r,Quiet P hp ⟨dd,.binOp .quo t x y U,ty,ps,af,gd⟩ arg r/\R r):∃r,Quiet P hp ⟨dd,.binOp .quo t x y U,ty,ps,af,gd⟩ arg r/\R r:=h
theorem A6K(h:∃r,Quiet P hp ⟨dd,.binOp .rem t x y U,ty,ps,af,gd⟩ arg r/\R r):∃r,Quiet P hp ⟨dd,.binOp .rem t x y U,ty,ps,af,gd⟩ arg r/\R r:=h
theorem A1r(h:∃r,HStep P σ acc e ⟨dd,.binOp .rem t x y U,ty,ps,af,gd⟩ r/\H r):∃r,HStep P σ acc e ⟨dd,.binOp .rem t x y U,ty,ps,af,gd⟩ r/\H r:=h
theorem Abx(h:∃r,Quiet P hp ⟨dd,.binOp .or t x y U,ty,ps,af,gd⟩ arg r/\R r):∃r,Quiet P hp ⟨dd,.binOp .or t x y U,ty,ps,af,gd⟩ arg r/\R r:=h
theorem IS(h:∃r,Quiet P hp ⟨dd,.binOp vW t x y U,ty,ps,af,gd⟩ arg r/\R r):∃r,Quiet P hp ⟨dd,.binOp vW t x y U,ty,ps,af,gd⟩ arg r/\R r:=h
theorem A6O(h:∃r,HStep P σ acc e ⟨dd,.binOp vW t x y U,ty,ps,af,gd⟩ r/\H r):∃r,HStep P σ acc e ⟨dd,.binOp vW t x y U,ty,ps,af,gd⟩ r/\H r:=h
theorem Abw{O:UnOp}(h:∃r,Quiet P hp ⟨dd,.unOp O t x,ty,ps,af,gd⟩ arg r/\R r):∃r,Quiet P hp ⟨dd,.unOp O t x,ty,ps,af,gd⟩ arg r/\R r:=h
theorem A8X{O:UnOp}(h:∃r,HStep P σ acc e ⟨dd,.unOp O t x,ty,ps,af,gd⟩ r/\H r):∃r,HStep P σ acc e ⟨dd,.unOp O t x,ty,ps,af,gd⟩ r/\H r:=h
theorem Aaj(h:∃r,Quiet P hp ⟨dd,.extract x n,ty,ps,af,gd⟩ arg r/\R r):∃r,Quiet P hp ⟨dd,.extract x n,ty,ps,af,gd⟩ arg r/\R r:=h
theorem A6N(h:∃r,HStep P σ acc e ⟨dd,.extract x n,ty,ps,af,gd⟩ r/\H r):∃r,HStep P σ acc e ⟨dd,.extract x n,ty,ps,af,gd⟩ r/\H r:=h
theorem Ol(h:∃r,Quiet P hp ⟨dd,.pick x y vS,ty,ps,af,gd⟩ arg r/\R r):∃r,Quiet P hp ⟨dd,.pick x y vS,ty,ps,af,gd⟩ arg r/\R r:=h
theorem A2C(h:∃r,HStep P σ acc e ⟨dd,.pick x y vS,ty,ps,af,gd⟩ r/\H r):∃r,HStep P σ acc e ⟨dd,.pick x y vS,ty,ps,af,gd⟩ r/\H r:=h
theorem Zw(h:∃r,Quiet P hp ⟨dd,.build t xd,ty,ps,af,gd⟩ arg r/\R r):∃r,Quiet P hp ⟨dd,.build t xd,ty,ps,af,gd⟩ arg r/\R r:=h
theorem Tf(h:∃r,HStep P σ acc e ⟨dd,.build t xd,ty,ps,af,gd⟩ r/\H r):∃r,HStep P σ acc e ⟨dd,.build t xd,ty,ps,af,gd⟩ r/\H r:=h
theorem A42(h:∃r,Quiet P hp ⟨dd,.buildSlice n b xd,ty,ps,af,gd⟩ arg r/\R r):∃r,Quiet P hp ⟨dd,.buildSlice n b xd,ty,ps,af,gd⟩ arg r/\R r:=h
theorem PH(h:∃r,HStep P σ acc e ⟨dd,.buildSlice n b xd,ty,ps,af,gd⟩ r/\H r):∃r,HStep P σ acc e ⟨dd,.buildSlice n b xd,ty,ps,af,gd⟩ r/\H r:=h
theorem A8p(h:∃r,Quiet P hp ⟨dd,.convert t U x,ty,ps,af,gd⟩ arg r/\R r):∃r,Quiet P hp ⟨dd,.convert t U x,ty,ps,af,gd⟩ arg r/\R r:=h
theorem Xb(h:∃r,HStep P σ acc e ⟨dd,.convert t U x,ty,ps,af,gd⟩ r/\H r):∃r,HStep P σ acc e ⟨dd,.convert t U x,ty,ps,af,gd⟩ r/\H r:=h
theorem A6P(h:∃r,HStep P σ acc e ⟨dd,.alloc t,ty,ps,af,gd⟩ r/\H r):∃r,HStep P σ acc e ⟨dd,.alloc t,ty,ps,af,gd⟩ r/\H r:=h
theorem Zx(h:AWl P s0 m ops Q (⟨dd,.alloc t,ty,ps,af,gd⟩::rest) σ):AWl P s0 m ops Q (⟨dd,.alloc t,ty,ps,af,gd⟩::rest) σ:=h
theorem Th(h:AWl P s0 m ops Q (⟨dd,.store t x y,ty,ps,af,gd⟩::rest) σ):AWl P s0 m ops Q (⟨dd,.store t x y,ty,ps,af,gd⟩::rest) σ:=h
theorem A6S(h:AWl P s0 m ops Q (⟨dd,.box t x,ty,ps,af,gd⟩::rest) σ):AWl P s0 m ops Q (⟨dd,.box t x,ty,ps,af,gd⟩::rest) σ:=h
theorem Aal(h:AWl P s0 m ops Q (⟨dd,.call { callee:=.builtin .append,args:=uJ,argTypes:=vs },ty,ps,af,gd⟩::rest) σ):AWl P s0 m ops Q (⟨dd,.call { callee:=.builtin .append,args:=uJ,argTypes:=vs },ty,ps,af,gd⟩::rest) σ:=h
theorem Aby(h:AWl P s0 m ops Q (⟨dd,.makeSlice t x y,ty,ps,af,gd⟩::rest) σ):AWl P s0 m ops Q (⟨dd,.makeSlice t x y,ty,ps,af,gd⟩::rest) σ:=h
theorem A8Y(h:AWl P s0 m ops Q (⟨dd,.buildSlice t 0 #[],ty,ps,af,gd⟩::rest) σ):AWl P s0 m ops Q (⟨dd,.buildSlice t 0 #[],ty,ps,af,gd⟩::rest) σ:=h
theorem Kv{q y:Code}(h:AWp P s0 m (.cond x q y) Q σ):AWp P s0 m (.cond x q y) Q σ:=h
end
structure CellAt(ds:List D)(off:Nat)(u:D):Prop where
 lt:off<ds.length
 eq:DM ds off=u
structure PartAt(ds:List D)(off n:Nat)(es:List D):Prop where
 le:off+n<=ds.length
 eq:(ds.drop off).take n=es
structure SetAt(ds:List D)(off:Nat)(es ds':List D):Prop where
 le:off+es.length<=ds.length
 eq:Ue ds off es=ds'
theorem CellAt.mon{a:Nat->Int}(h:n<8):CellAt (CE a) n (ex (.int .i64 (a n))):=⟨h,NB h⟩
theorem Jr(h:n<8):CellAt (CE vh) (0+n*1) (ex (.int .i64 (vh n))):=by rw[YaG,YbF];exact .mon h
theorem HM{k:Nat}(h:k<8):CellAt ((CE vh).drop (k*1)) 0 (ex (.int .i64 (vh k))):=by
 rw[YbF];refine⟨by rw[YbS,XW];omega,?_⟩;rw[IM];exact NB h
theorem A3e(h:n<8):Ue (CE vh) n [ex (.int .i64 a)]=CE (RA vh n a):=by
 match n,h with
 |0,_=>rfl
 |1,_=>rfl
 |2,_=>rfl
 |3,_=>rfl
 |4,_=>rfl
 |5,_=>rfl
 |6,_=>rfl
 |7,_=>rfl
theorem SetAt.mon{a:Nat->Int}{z:Int}(h:n<8):SetAt (CE a) (0+n*1) [ex (.int .i64 z)] (CE (RA a n z)):=by
 rw[YaG,YbF];exact⟨h,A3e h⟩
def A9d:List (List D)->Nat->Option (List D)
 |[],_=>none
 |r::_,0=>some r
 |_::l,i+1=>A9d l i
theorem A1V:∀{l:List (List D)} {i:Nat} {r:List D},A9d l i=some r->r=l.getD i []/\i<l.length
 |[],_,_,h=>by cases h
 |x::l,0,r,h=>by cases h;exact⟨rfl,by simp⟩
 |x::l,i+1,r,h=>by
  obtain⟨q,A⟩:=A1V (l:=l) (i:=i) h;exact⟨by simpa using q,by simp;omega⟩
section
variable {P:Program} {hp:List Ow} {arg:Operand->AV} {dd:Option Tmp} {ty:TypeId} {ps:String} {af:Array Edge} {gd:Option (Nat×Bool)}
theorem MV{e n b g q len id off k:Nat}(C:arg x=.ptr id off)(N:arg y=.d (ex (.int i ((k:Nat):Int))))(L:Tab P t (.array len e) n b z)(a:Tab P e d g q u)(B:k<len):Quiet P hp ⟨dd,.indexAddr t x y,ty,ps,af,gd⟩ arg (.ptr id (off+k*g)):=
 Oa (o:=⟨dd,.indexAddr t x y,ty,ps,af,gd⟩) rfl C N L a ZbG ZbG
theorem Lw{e n b g q len T k:Nat}(C:arg x=.d (Fg T v))(N:arg y=.d (ex (.int i ((k:Nat):Int))))(L:Tab P t (.array len e) n b z)(a:Tab P e d g q u)(B:k<len):Quiet P hp ⟨dd,.indexAddr t x y,ty,ps,af,gd⟩ arg (.d (Fg T (v.drop (k*g)))):=
 Ob (o:=⟨dd,.indexAddr t x y,ty,ps,af,gd⟩) rfl C N L a ZbG ZbG
theorem Ht{e n b g F T s:Nat}{r:List D}(C:HV hp (arg x)=some (slD T s vm))(N:arg y=.d (ex (.int i a)))(L:Tab P t (.slice e) n b z)(B:Tab P e d g F u)(G:g=s)(V:A9d vm a.toNat=some r)(E:0<=a):Quiet P hp ⟨dd,.indexAddr t x y,ty,ps,af,gd⟩ arg (.d (Fg T r)):=by
 obtain⟨q,A⟩:=A1V V;rw[q];exact Quiet.index (o:=⟨dd,.indexAddr t x y,ty,ps,af,gd⟩) rfl C N L B G E ZbG
theorem Jo(C:arg x=.d (ex (.int .i64 ((n:Nat):Int))))(N:arg y=.d (ex (.int .i64 1)))(d:0<n)(q:(n:Int)<9223372036854775807):Quiet P hp ⟨dd,.binOp .sub t x y U,ty,ps,af,gd⟩ arg (.d (ex (.int .i64 ((n-1:Nat):Int)))):=by
 have:=Quiet.sub (P:=P) (hp:=hp) (o:=⟨dd,.binOp .sub t x y U,ty,ps,af,gd⟩) rfl C N ZbG ZbG;rwa [show(n:Int)-1=((n-1:Nat):Int)by omega]at this
theorem Mi(C:arg x=.ptr m c)(s:hp[m]? = some (.var T (v.map .d)))(L:Tab P t d n b z)(e:Fa d=false)(F:CellAt v c r):Quiet P hp ⟨dd,.load t x,ty,ps,af,gd⟩ arg (.d r):=by
 have:=NZ (P:=P) (o:=⟨dd,.load t x,ty,ps,af,gd⟩) rfl C s L e F.lt;rwa [F.eq]at this
theorem HL(C:arg x=.d (Fg T v))(L:Tab P t d n b z)(e:Fa d=false)(F:CellAt v 0 r):Quiet P hp ⟨dd,.load t x,ty,ps,af,gd⟩ arg (.d r):=by
 have:=NY (P:=P) (hp:=hp) (o:=⟨dd,.load t x,ty,ps,af,gd⟩) rfl C L e F.lt;rwa [F.eq]at this
theorem WR(C:arg x=.d (Fg T v))(L:Tab P t d n b z)(e:Fa d=true)(F:PartAt v 0 n vn):Quiet P hp ⟨dd,.load t x,ty,ps,af,gd⟩ arg (.d (AQ vn)):=by
 have:=Ls (P:=P) (hp:=hp) (o:=⟨dd,.load t x,ty,ps,af,gd⟩) rfl C L e (by have:=F.le;omega);rwa [<-F.eq,YaP]
theorem Gj(C:arg x=.d (AQ v))(N:arg y=.d (ex (.int i ((k:Nat):Int))))(L:Tab P t (.array c n) b T z)(a:Tab P n d 1 m u)(e:Fa d=false)(B:k<c)(F:CellAt v k r):Quiet P hp ⟨dd,.index t x y,ty,ps,af,gd⟩ arg (.d r):=by
 have:=UR (P:=P) (hp:=hp) (o:=⟨dd,.index t x y,ty,ps,af,gd⟩) rfl C N L a e ZbG ZbG (by have:=F.lt;omega);exact ZiM
theorem Hu{e n b g A len k:Nat}(C:arg x=.d (AQ v))(N:arg y=.d (ex (.int i ((k:Nat):Int))))(L:Tab P t (.array len e) n b z)(a:Tab P e d g A u)(q:Fa d=true)(B:k<len)(F:PartAt v (k*g) g vn):Quiet P hp ⟨dd,.index t x y,ty,ps,af,gd⟩ arg (.d (AQ vn)):=by
 have:=A3W (P:=P) (hp:=hp) (o:=⟨dd,.index t x y,ty,ps,af,gd⟩) rfl C N L a q ZbG ZbG F.le;exact ZiM
theorem A3l (a b : Nat → Int) (w : World) : (do eqGuard .eql 112 x y (.agg (c8 a)) (.agg (c8 b)); binOp .eql 112 (.agg (c8 a)) (.agg (c8 b)) : Sem Value).run prog w = .ok (.bool (LU a b)) w := by
 exact ZgI
theorem A39 (a b : Nat → Int) (w : World) : (do eqGuard .neq 112 x y (.agg (c8 a)) (.agg (c8 b)); binOp .neq 112 (.agg (c8 a)) (.agg (c8 b)) : Sem Value).run prog w = .ok (.bool (!LU a b)) w := by
 exact ZgI
theorem Hs {a b v : Value} (I : va.op = .binOp vW t x y U) (C : arg x = .d r) (N : arg y = .d vx) (l : ∀ s u, r.rel s u → u = a) (E : ∀ s u, vx.rel s u → u = b) (V : ∀ w, (do eqGuard vW t x y a b; binOp vW t a b : Sem Value).run P w = .ok v w) : Quiet P hp va arg (.d (ex v)) := by
 refine⟨λbase s X i G z Z h=>?_⟩;have q:=h x ZeL;have A:=h y ZeL;rw[C]at q;rw[N]at A;have B:=l s _ q;have F:=E s _ A;have:=V s.w;refine Cd (v:=v) ?_ ⟨GS.Le.refl s,rfl⟩;simp only[execOp,I,B,F,Sem.run_bind,this,Result.andThen_ok,Sem.run_pure]
theorem Lx(C:arg x=.d (AQ (CE vh)))(N:arg y=.d (AQ (CE vC))):Quiet prog hp ⟨dd,.binOp .eql 112 x y t,ty,ps,af,gd⟩ arg (.d (ex (.bool (LU vh vC)))):=
 Hs rfl C N (λ_ _ h=>CY h) (λ_ _ h=>CY h) λw=>A3l vh vC w
theorem Lt{U:TypeId}(C:arg x=.d (AQ (CE vh)))(N:arg y=.d (AQ (CE vC))):Quiet prog hp ⟨dd,.binOp .neq 112 x y U,ty,ps,af,gd⟩ arg (.d (ex (.bool (!LU vh vC)))):=
 Hs rfl C N (λ_ _ h=>CY h) (λ_ _ h=>CY h) λw=>A39 vh vC w
theorem Py(C:arg x=.d (AQ (CE vh)))(N:arg y=.d (AQ (CE vC)))(h:LU vh vC=true):Quiet prog hp ⟨dd,.binOp .eql 112 x y t,ty,ps,af,gd⟩ arg (.d (ex (.bool true))):=by
 rw[<-h];exact Lx C N
theorem Pz(C:arg x=.d (AQ (CE vh)))(N:arg y=.d (AQ (CE vC)))(h:LU vh vC=false):Quiet prog hp ⟨dd,.binOp .eql 112 x y t,ty,ps,af,gd⟩ arg (.d (ex (.bool false))):=by
 rw[<-h];exact Lx C N
theorem Pw{U:TypeId}(C:arg x=.d (AQ (CE vh)))(N:arg y=.d (AQ (CE vC)))(h:LU vh vC=true):Quiet prog hp ⟨dd,.binOp .neq 112 x y U,ty,ps,af,gd⟩ arg (.d (ex (.bool false))):=by
 exact ZhA
theorem Pv{U:TypeId}(C:arg x=.d (AQ (CE vh)))(N:arg y=.d (AQ (CE vC)))(h:LU vh vC=false):Quiet prog hp ⟨dd,.binOp .neq 112 x y U,ty,ps,af,gd⟩ arg (.d (ex (.bool true))):=by
 exact ZhA
theorem Mk{T U:TypeId}(C:arg x=.d (ex (.bool o)))(N:arg y=.d (ex (.bool um)))(i:P.underlying T=some .bool):Quiet P hp ⟨dd,.binOp .eql T x y U,ty,ps,af,gd⟩ arg (.d (ex (.bool (o==um)))):=
 CM (o:=⟨dd,.binOp .eql T x y U,ty,ps,af,gd⟩) rfl C N λw=>by
  have heq:(Op.equalIn Op.maxDepth T (.bool o) (.bool um)).run P w=.ok (o==um) w:=run_equalIn_bool w 9999 T o um i;simp[eqGuard,binOp,Op.equal,heq]
theorem Mg(C:arg x=.d (ex (.bool o)))(N:arg y=.d (ex (.bool um)))(i:P.underlying t=some .bool):Quiet P hp ⟨dd,.binOp .neq t x y U,ty,ps,af,gd⟩ arg (.d (ex (.bool (!(o==um))))):=
 CM (o:=⟨dd,.binOp .neq t x y U,ty,ps,af,gd⟩) rfl C N λw=>by
  have heq:(Op.equalIn Op.maxDepth t (.bool o) (.bool um)).run P w=.ok (o==um) w:=run_equalIn_bool w 9999 t o um i;simp[eqGuard,binOp,Op.equal,heq]
end
section
variable {P:Program} {s0:An} {n:Nat} {ops:Array Oper} {Q:Exit->AS->Prop} {rest:List Oper} {fr:List (Nat×AV)} {hp:List Ow} {ty:TypeId} {ps:String} {af:Array Edge}
theorem Mm{b id m off:Nat}(C:AS.arg ⟨fr,hp⟩ x=.ptr id off)(N:AS.arg ⟨fr,hp⟩ y=.d (AQ vn))(s:hp[id]? = some (.var U (v.map .d)))(L:Tab P t d m b z)(q:vn.length=m)(F:SetAt v off vn xb)(Z:GZ hp id (.var U (xb.map .d))=some H)
  (h:AWl P s0 n ops Q rest ⟨fr,H⟩):AWl P s0 n ops Q (⟨none,.store t x y,ty,ps,af,none⟩::rest) ⟨fr,hp⟩:=by
 refine Tq (o:=⟨none,.store t x y,ty,ps,af,none⟩) rfl rfl rfl C N s L q (by rw[<-q];exact Ydc F.le) ?_;rw[Fp Z,<-F.eq]at h;exact h
theorem LD{b id off:Nat}(C:AS.arg ⟨fr,hp⟩ x=.ptr id off)(N:AS.arg ⟨fr,hp⟩ y=.d r)(s:hp[id]? = some (.var U (v.map .d)))(L:Tab P t d 1 b z)(q:One hp (.d r))(F:SetAt v off [r] vn)(Z:GZ hp id (.var U (vn.map .d))=some H)
  (h:AWl P s0 n ops Q rest ⟨fr,H⟩):AWl P s0 n ops Q (⟨none,.store t x y,ty,ps,af,none⟩::rest) ⟨fr,hp⟩:=by
 have O:off<v.length:=F.le;refine Qk (o:=⟨none,.store t x y,ty,ps,af,none⟩) rfl rfl rfl C N s L q O ?_;have A:=F.eq
 have:Ue v off [r]=v.set off r:=by
  unfold Ue;exact Zjg
 rw[this]at A;rw[Fp Z,<-A]at h;exact h
end
theorem Ui:∀{G H:List Ow} {i:Nat} {x:Ow},G[i]? = some x->GZ G i x=some H->H=G
 |[],_,_,_,h,_=>by cases h
 |o::l,H,0,x,h,q=>by cases h;cases q;rfl
 |o::l,H,i+1,x,h,q=>by
  unfold GZ at q;split at q
  .rename_i r V
   cases q;rw[Ui Zdf V]
  .cases q
theorem A6Y{s0:An}(id:Nat)(L:List D)(s:H[id]? = some (.var t (v.map .d)))(a:v=L)(Z:GZ H id (.var t (L.map .d))=some vA)(h:AWl P s0 n vZ vl vd ⟨vc,vA⟩):AWl P s0 n vZ vl vd ⟨vc,H⟩:=by
 subst a;rw[Ui s Z]at h;exact h
theorem Co(h:D.le r up)(V:D.le vx xa):D.le (Gb [r,vx]) (Gb [up,xa]):=λs v C=>by
 obtain⟨J,e,I,B⟩:=C;refine⟨J,e,I,λk M=>?_⟩;obtain⟨u,q,A⟩:=B k M
 match k,M with
 |0,_=>exact⟨u,q,h s u A⟩
 |1,_=>exact⟨u,q,V s u A⟩
 |k+2,M=>exact absurd M ZbV
theorem Tk(h:vb=uf):D.le (BP vb) (BP uf):=Ae (by rw[h])
theorem A44:D.le (ex (.slice none 0 0)) (BP []):=AM
section
variable {P:Program} {hp:List Ow} {arg:Operand->AV} {dd:Option Tmp} {ty:TypeId} {ps:String} {af:Array Edge} {gd:Option (Nat×Bool)}
theorem QW(C:arg x=.d (wD l))(L:Tab P t (.slice n) b T z):Quiet P hp ⟨dd,.call { callee:=.builtin .len,args:=#[x],argTypes:=#[t] },ty,ps,af,gd⟩ arg (.d (ex (.int .i64 (l.length:Nat)))):=by
 refine⟨λbase s X i F G Z h=>?_⟩;have q:=h x Zde;rw[C]at q;obtain⟨A,c,E,B⟩:=q.1;rw[Yap]at E;refine Cd (v:=.int .i64 l.length) ?_ ⟨GS.Le.refl s,rfl⟩;simp[execOp,resolve,invoke,builtin,E,Builtin.len_,run_underlying L.und,goInt]
theorem Mj{e n b O k:Nat}(E:arg x=.d (wD l))(N:arg y=.d (ex (.int i ((k:Nat):Int))))(L:Tab P t (.slice e) n b z)(a:Tab P e d 1 O u)(C:k<l.length):Quiet P hp ⟨dd,.indexAddr t x y,ty,ps,af,gd⟩ arg (.d (Fg 335 [ex (.int .u32 (l.getD k 0:Nat))])):=by
 refine⟨λbase s X I S W Z h=>?_⟩;have q:=h x ZcW;have B:=h y ZcW;rw[E]at q;rw[N]at B;have M:I y=.int i ((k:Nat):Int):=B;obtain⟨A,c,G,K,Y,J⟩:=q.1;rw[Yap]at G J;obtain⟨g,p,rfl,Q⟩:=J ZbG;have f:=(Q k C).2
 have V:(l.map λx=>[ex (.int .u32 (x:Nat))]).getD k []=[ex (.int .u32 (l.getD k 0:Nat))]:=by
  simp[Yab,C]
 rw[V]at f;refine Cd (v:=.pointer (some ⟨g,p+k*1,none⟩)) ?_ ⟨GS.Le.refl s,g,_,rfl,f⟩;have F:k<l.length:=C;simp[execOp,G,M,Instr.indexAt,asIntOf,run_underlying L.und,F,a.run_size,Addr.add_lit]
end
theorem JQ(z:Int):Abs prog 285 [AQ (Cv z)] (ex (.bool (decide (z=1)))):=by
 refine BH (Ag func285 ZbK ZbK) λs J C I r=>?_;rw[vs1 I];obtain⟨q,A,t,X,l,d⟩:=DU (r 0 ZbV);rw[l];exact(A3j q A t X z _ d).mono λe M ⟨a,Q⟩=>⟨_,a,Q,λj c h _ _=>rfl⟩
theorem FJ(z:Int):Abs prog 235 [AQ (Cv z)] (ex (.int .i64 z.sign)):=by
 refine BH (Ag func235 ZbK ZbK) λs J C I r=>?_;rw[vs1 I];obtain⟨q,A,t,X,l,d⟩:=DU (r 0 ZbV);rw[l];exact(A4O q A t X z _ d).mono λe M ⟨a,Q⟩=>⟨_,a,Q,λj c h _ _=>rfl⟩
theorem QQ(x y:Int)(h:(Aw x.natAbs).length<=4398046511104)(A:(Aw y.natAbs).length<=4398046511104):Abs prog 290 [AQ (Cv x),AQ (Cv y)] (AQ (Cv (Nat.gcd x.natAbs y.natAbs:Nat))):=by
 refine BH (Ag func290 ZbK ZbK) λs J C I r=>?_;rw[ZP I];obtain⟨B,F,t,X,l,d⟩:=DU (r 0 ZbV);obtain⟨U,G,f,K,b,q⟩:=DU (r 1 ZbV);rw[l,b];exact(A7J B U F G t X f K x y _ d q h A).mono λe M ⟨y,Y,m,k,a,W,Q⟩=>⟨_,a,Q,λj c E _ _=>by subst c;exact HC E W⟩
theorem VP(x y:Int)(h:(Aw x.natAbs).length<=4398046511104)(A:(Aw y.natAbs).length<=4398046511104):Abs prog 286 [AQ (Cv x),AQ (Cv y)] (AQ (Cv (x*y))):=by
 refine BH (Ag func286 ZbK ZbK) λs J C I r=>?_;rw[ZP I];obtain⟨B,F,t,X,l,d⟩:=DU (r 0 ZbV);obtain⟨U,G,f,K,b,q⟩:=DU (r 1 ZbV);rw[l,b];exact(A7x B U F G t X f K x y _ d q h A).mono λe M ⟨y,Y,m,k,a,W,Q⟩=>⟨_,a,Q,λj c E _ _=>by subst c;exact HC E W⟩
theorem VI(z:Int)(d:-9223372036854775808<=z)(q:z<=9223372036854775807):Abs prog 139 [ex (.int .i64 z)] (AQ (Cv z)):=by
 refine BH (Ag func139 ZbK ZbK) λs J C I r=>?_;rw[vs1 I];have l:J.getD 0 undef=.int .i64 z:=r 0 ZbV;rw[l];exact(A9p z _ d q).mono λe M ⟨y,Y,m,k,a,W,Q⟩=>⟨_,a,Q,λj c h _ _=>by subst c;exact HC h W⟩
theorem SU(x y:Int)(h:(Aw x.natAbs).length<=4398046511103)(A:(Aw y.natAbs).length<=4398046511103):Abs prog 226 [AQ (Cv x),AQ (Cv y)] (AQ (Cv (Nat.gcd x.natAbs y.natAbs:Nat))):=by
 refine BH (Ag func226 ZbK ZbK) λs J C I r=>?_;rw[ZP I];obtain⟨B,F,t,X,l,d⟩:=DU (r 0 ZbV);obtain⟨U,G,f,K,b,q⟩:=DU (r 1 ZbV);rw[l,b];exact(A6j B U F G t X f K x y _ d q h A).mono λe M ⟨y,Y,m,k,a,W,Q⟩=>⟨_,a,Q,λj c E _ _=>by subst c;exact HC E W⟩
theorem Kq(z:Int)(d:-9223372036854775808<=z)(q:z<=9223372036854775807):Abs prog 141 [ex (.int .i64 z)] (AQ (Cv z)):=by
 refine BH (Ag func141 ZbK ZbK) λs J C I r=>?_;rw[vs1 I];have l:J.getD 0 undef=.int .i64 z:=r 0 ZbV;rw[l];exact(A8b z _ d q).mono λe M ⟨y,Y,m,k,a,W,Q⟩=>⟨_,a,Q,λj c h _ _=>by subst c;exact HC h W⟩
theorem Qc(x y:Nat):Abs prog 284 [wD (Aw x),wD (Aw y)] (ex (.int .i64 (Fx x y))):=by
 refine BH (Ag func284 ZbK ZbK) λs J C I r=>?_;rw[ZP I];exact(Jl _ _ x y _ (Et (r 0 ZbV)) (Et (r 1 ZbV))).mono λe M ⟨a,Q⟩=>⟨_,a,Q,λj c h _ _=>rfl⟩
theorem HE(x y:Nat):Abs prog 276 [wD (Aw x),wD (Aw y)] (ex (.int .i64 (Fx x y))):=by
 refine BH (Ag func276 ZbK ZbK) λs J C I r=>?_;rw[ZP I];exact(HD _ _ x y _ (Et (r 0 ZbV)) (Et (r 1 ZbV))).mono λe M ⟨a,Q⟩=>⟨_,a,Q,λj c h _ _=>rfl⟩
section
variable {P:Program} {hp:List Ow} {arg:Operand->AV} {dd:Option Tmp} {ty:TypeId} {ps:String} {af:Array Edge} {gd:Option (Nat×Bool)}
theorem Ta(C:arg x=.d (ex (.int .i64 a)))(q:-9223372036854775807<=a)(A:a<=9223372036854775807):Quiet P hp ⟨dd,.unOp .neg t x,ty,ps,af,gd⟩ arg (.d (ex (.int .i64 (-a)))):=by
 refine⟨λbase s X i B z Z h=>?_⟩;have K:=h x ZcW;rw[C]at K;have b:i x=.int .i64 a:=K;have y:IntKind.i64.wrap (-a)=-a:=IntWalk.i64_in _ ZbG;exact Cd (v:=.int .i64 (-a)) (by simp[execOp,b,Op.unary,Op.intArith,y]) ⟨GS.Le.refl s,rfl⟩
theorem GB(C:arg x=.d (ex (.int i a)))(p:Tab P t d n b z)(B:Tab P U (.int .i64) T m u)(q:-9223372036854775808<=a)(A:a<=9223372036854775807):Quiet P hp ⟨dd,.convert t U x,ty,ps,af,gd⟩ arg (.d (ex (.int .i64 a))):=by
 have:=Ra (hp:=hp) (dd:=dd) (ty:=ty) (ps:=ps) (af:=af) (gd:=gd) C p B;rwa [IntWalk.i64_in _ ZbG]at this
theorem Oe{T U:TypeId}(C:arg x=.d (ex (.int .i64 1)))(N:arg y=.d (ex (.int .i64 (n:Nat))))(q:(n:Int)<9223372036854775807):Quiet P hp ⟨dd,.binOp .add T x y U,ty,ps,af,gd⟩ arg (.d (ex (.int .i64 ((n+1:Nat):Int)))):=by
 have:=PA (P:=P) (hp:=hp) (dd:=dd) (ty:=ty) (ps:=ps) (af:=af) (gd:=gd) (T:=T) (U:=U) C N ZbG ZbG;rwa [show(1:Int)+n=((n+1:Nat):Int)by omega]at this
end
section
variable {P:Program} {hp:List Ow} {arg:Operand->AV} {dd:Option Tmp} {ty:TypeId} {ps:String} {af:Array Edge} {gd:Option (Nat×Bool)}
theorem WS(C:arg x=.d (Fg g v))(N:arg y=.d (ex (.int i a)))(L:Tab P t (.array k n) b T z)(q:Tab P n d m c u)(A:0<=a)(I:a<k)(V:Qa (a.toNat*m) v=some vn):Quiet P hp ⟨dd,.indexAddr t x y,ty,ps,af,gd⟩ arg (.d (Fg g vn)):=by
 rw[(NF V).1];exact Ob (o:=⟨dd,.indexAddr t x y,ty,ps,af,gd⟩) rfl C N L q A I
theorem QX(C:arg x=.ptr g vk)(N:arg y=.d (ex (.int i a)))(L:Tab P t (.array k n) b T z)(q:Tab P n d m c u)(A:0<=a)(I:a<k):Quiet P hp ⟨dd,.indexAddr t x y,ty,ps,af,gd⟩ arg (.ptr g (vk+a.toNat*m)):=
 Oa (o:=⟨dd,.indexAddr t x y,ty,ps,af,gd⟩) rfl C N L q A I
end
def r5C(r:Nat->Int):List D:=[ex (.int .i8 (r 0)),ex (.int .i8 (r 1)),ex (.int .i8 (r 2)),ex (.int .i8 (r 3)),ex (.int .i8 (r 4))]
theorem A9i(h:n<5):DM (r5C vh) n=ex (.int .i8 (vh n)):=by
 match n,h with
 |0,_=>rfl
 |1,_=>rfl
 |2,_=>rfl
 |3,_=>rfl
 |4,_=>rfl
theorem A4c(h:n<5):CellAt ((r5C vh).drop (n*1)) 0 (ex (.int .i8 (vh n))):=by
 rw[YbF];refine⟨by rw[YbS];show 0<5-n;omega,?_⟩;rw[IM];exact A9i h
def r5D(T:Nat)(X:List (Nat->Int)):D:=slD T 5 (X.map r5C)
def He(X:List (Nat->Int))(k:Nat):Nat->Int:=X.getD k default
theorem Yo(h:n<vu.length):He vu n∈vu:=by
 unfold He;exact Zge
end
