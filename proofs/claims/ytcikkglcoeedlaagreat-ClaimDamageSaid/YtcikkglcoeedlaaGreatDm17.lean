/- Part 17. No condition. -/
import Derived.Test.YtcikkglcoeedlaaGreatDm2
import Derived.Test.YtcikkglcoeedlaaGreatDm3
import Derived.Test.YtcikkglcoeedlaaGreatDm9
import Derived.Test.YtcikkglcoeedlaaGreatDm14
import Derived.Test.YtcikkglcoeedlaaGreatDm15
import Derived.Test.YtcikkglcoeedlaaGreatDm16
set_option linter.all false
set_option maxRecDepth 100000
namespace Go.Proofs.YtcikkglcoeedlaaGreat
open _root_.Go.Proofs.Tryz
variable{ve:AS}{h:AV}{xf:AV->Prop}{xg:Array (Nat×Operand)}{vO:Array Bool}{vV:Array Field}{ua:Array Oper}{uM:Array Operand}{vt:Array TypeId}{vW:BinOp}{o uo:Bool}{r vv uq xd:D}{vm:Exit->AS->Prop}{uc:Field}{vQ:Func}{vd:FuncId}{s:GS}{a j:Int}{i:IntKind}{vk:List (List D)}{vx:List (Nat->Int)}{vb:List (Nat×AV)}{uu:List (Nat×List D)}{vw:List (Nat×Nat)}{uf:List (Nat×Operand)}{R:List AV}{v vn xe:List D}{ur:List HR}{l:List Nat}{vf uN:List Oper}{vP:List Operand}{H vA:List Ow}{vc uj:List Tm}{uh:List Value}{e:Type}{vu:List e}{n b T m c k f vj:Nat}{vi vH:Nat->Int}{uk:Op}{va:Oper}{x y vT:Operand}{vC:Operand->AV}{P:Program}{vD:Rat}{vL:Tm}{d:TypeDesc}{t U:TypeId}{z u:Value}{w:World}{vK:e->List D}
section
open Go.RowKit
theorem Ag (p : P.funcs[vd]? = some vQ) (g : (vQ.name == "runtime.NumGoroutine") = false) (E : vQ.body.isNone = false) (args : Array Value) (w : World) : (callFunc vd args).run P w = .ok (.enter vd args) w := by
 have:(program).run P w = .ok P w:=rfl;have l : ¬ vQ.name = "runtime.NumGoroutine" := by simpa using g
 have F:¬vQ.body=none:=λe=>by rw[e]at E;cases E
 simp[callFunc,this,p,l,F]
theorem BI(a:∀args w,(callFunc vd args).run P w=.ok (.enter vd args) w)(h:∀(s:GS) (J:List Value),s.Ok->J.length=v.length->(∀k,k<v.length->(Dd v k).rel s (J.getD k undef)) ->
  Calls P vd J.toArray s.w λe N=>∃B,e=.returned B/\Ext s.w N/\∀j:GS,j.w=N->j.Ok->(∀b k,s.w.heap.size<=b->b<N.heap.size->j.S b k)->GS.Le s j->r.rel j B):Abs P vd v r:=by
 refine⟨a,λs J F I E=>(h s J F I E).mono λe N ⟨B,C,Z,Y⟩=>⟨B,C,s.grown N,rfl,FO Z,?_⟩⟩;exact Y _ rfl ((FO Z).ok F) (λb k q A=>.inr ⟨q,A⟩) (FO Z)
theorem vs1(h:uh.length=1):uh=[uh.getD 0 undef]:=by
 match uh,h with
 |[a],_=>rfl
theorem vs2(h:uh.length=2):uh=[uh.getD 0 undef,uh.getD 1 undef]:=by
 match uh,h with
 |[a,b],_=>rfl
def wD(l:List Nat):D:=⟨λs v=>(slD 335 1 (l.map λx=>[ex (.int .u32 (x:Nat))])).rel s v/\BK l,λh G=>⟨(slD _ _ _).st h.1 G,h.2⟩⟩
theorem Et(h:(wD l).rel s z):Words s.w z l:=by
 obtain⟨⟨A,c,q,B,K,Q⟩,a⟩:=h;simp only[Yap]at q B Q;refine⟨A,c,q,B,K,a,λC=>?_⟩;obtain⟨b,o,k,E⟩:=Q C;obtain⟨_,f,G,g,F⟩:=E 0 C;refine⟨b,o,f,G,k,g,λi J=>?_⟩;obtain⟨S,I,M,X,v⟩:=E i J;rw[g]at X;cases X;obtain⟨_,u,p,_,L⟩:=v 0 (by rw[S];omega);have e:Dd ((l.map λx=>[ex (.int .u32 (x:Nat))]).getD i []) 0=ex (.int .u32 (l[i]:Nat)):=by simp[Dd,J]
 rw[e]at L;have L:u=_:=L;rw[Ybz,Ybf]at p;rw[p,L]
theorem JM(I:s.Ok)(h:Words s.w z l):(wD l).rel s z:=by
 obtain⟨A,c,q,B,K,a,Q⟩:=h;refine⟨⟨A,c,by rw[Yap];exact q,by rw[Yap];exact B,K,λE=>?_⟩,a⟩;rw[Yap]at E;obtain⟨b,o,f,J,F,G,g⟩:=Q E;refine⟨b,o,F,λk C=>?_⟩;rw[Yap]at C;have e:(l.map λx=>[ex (.int .u32 (x:Nat))]).getD k []=[ex (.int .u32 (l[k]:Nat))]:=by simp[C]
 rw[e];refine⟨rfl,f,J,G,λj X=>?_⟩;obtain rfl:j=0:=by simp at X;omega
 rw[Ybz,Ybf];exact⟨I.safe b _ ⟨f,J,G⟩,_,g k C,rfl,rfl⟩
def Cr(z:Int):List D:=[eB (decide (z<0)),wD (Aw z.natAbs)]
def DE(q:Rat):List D:=[eB (decide (q.num<0)),wD (Aw q.num.natAbs),eB (decide ((q.den:Int)<0)),wD (Aw (q.den:Int).natAbs)]
theorem NF(h:(wD l).rel s z):∃A n c,z=.slice A n c:=by
 obtain⟨A,c,q,_⟩:=h.1;exact⟨A,_,c,q⟩
theorem ag2(h:(AP [r,vv]).rel s z):∃I B,z=.agg #[I,B]/\r.rel s I/\vv.rel s B:=by
 obtain⟨f,rfl,q,A⟩:=h;obtain⟨I,n,_,d⟩:=A 0 ZbR;obtain⟨B,W,_,b⟩:=A 1 ZbR;refine⟨I,B,?_,d,b⟩;congr 1;refine Array.ext Zdv λi C E=>?_;simp at E
 match i,E with
 |0,_=>exact Yag ((YaF C).symm.trans n)
 |1,_=>exact Yag ((YaF C).symm.trans W)
theorem ag4(h:(AP [r,vv,uq,xd]).rel s z):∃I F G u,z=.agg #[I,F,G,u]/\r.rel s I/\vv.rel s F/\uq.rel s G/\xd.rel s u:=by
 obtain⟨f,rfl,q,A⟩:=h;obtain⟨I,n,_,d⟩:=A 0 ZbR;obtain⟨F,W,_,b⟩:=A 1 ZbR;obtain⟨G,o,_,C⟩:=A 2 ZbR;obtain⟨u,H,_,g⟩:=A 3 ZbR;refine⟨I,F,G,u,?_,d,b,C,g⟩;congr 1;refine Array.ext Zdv λi B E=>?_;simp at E
 match i,E with
 |0,_=>exact Yag ((YaF B).symm.trans n)
 |1,_=>exact Yag ((YaF B).symm.trans W)
 |2,_=>exact Yag ((YaF B).symm.trans o)
 |3,_=>exact Yag ((YaF B).symm.trans H)
theorem Zt{l:List Value}(h:(AP (l.map ex)).rel s z):z=.agg l.toArray:=by
 obtain⟨f,rfl,q,A⟩:=h;congr 1;refine Array.ext Zdv λi C E=>?_;simp at E;obtain⟨u,e,_,r⟩:=A i (by simpa using E);have o:Dd (l.map ex) i=ex l[i]:=by simp[Dd,E]
 rw[o]at r;have r:u=l[i]:=r;rw[YaF C]at e;rw[Yag e,r];simp
theorem Ack{l:List Value}(h:Ih l=true):(AP (l.map ex)).rel s (.agg l.toArray):=by
 refine⟨_,rfl,by simp,λk B=>?_⟩;simp at B;refine⟨l[k],by simp[B],Yah.1 h _ ZbR,?_⟩;have o:Dd (l.map ex) k=ex l[k]:=by simp[Dd,B]
 rw[o];rfl
theorem A3m(h:(AP (DE vD)).rel s z):∃(b H:Bool) (A O:Option Addr) (n c E l:Nat),z=.agg #[.bool b,.slice A n c,.bool H,.slice O E l]/\IsRat s.w (.bool b) (.slice A n c) (.bool H) (.slice O E l) vD:=by
 obtain⟨I,F,f,u,rfl,C,q,B,K⟩:=ag4 h;obtain rfl:I=_:=C;obtain rfl:f=_:=B;obtain⟨A,n,c,rfl⟩:=NF q;obtain⟨O,E,l,rfl⟩:=NF K;exact⟨_,_,A,O,n,c,E,l,rfl,⟨rfl,Et q⟩,⟨rfl,Et K⟩⟩
theorem A80{A O:Option Addr}(E:s.Ok)(h:IsRat s.w (.bool o) (.slice A n b) (.bool uo) (.slice O T m) vD):(AP (DE vD)).rel s (.agg #[.bool o,.slice A n b,.bool uo,.slice O T m]):=by
 obtain⟨⟨q,B⟩,K,Q⟩:=h;refine⟨_,rfl,rfl,λk C=>?_⟩;have C:k<4:=C
 match k,C with
 |0,_=>exact⟨_,rfl,rfl,q⟩
 |1,_=>exact⟨_,rfl,rfl,JM E B⟩
 |2,_=>exact⟨_,rfl,rfl,K⟩
 |3,_=>exact⟨_,rfl,rfl,JM E Q⟩
theorem DU(h:(AP (Cr a)).rel s z):∃(b:Bool) (A:Option Addr) (n c:Nat),z=.agg #[.bool b,.slice A n c]/\IsInt s.w (.bool b) (.slice A n c) a:=by
 obtain⟨I,C,rfl,B,q⟩:=ag2 h;obtain rfl:I=_:=B;obtain⟨A,n,c,rfl⟩:=NF q;exact⟨_,A,n,c,rfl,rfl,Et q⟩
theorem HN{A:Option Addr}(E:s.Ok)(h:IsInt s.w (.bool o) (.slice A n b) a):(AP (Cr a)).rel s (.agg #[.bool o,.slice A n b]):=by
 obtain⟨q,B⟩:=h;refine⟨_,rfl,rfl,λk C=>?_⟩;have C:k<2:=C
 match k,C with
 |0,_=>exact⟨_,rfl,rfl,q⟩
 |1,_=>exact⟨_,rfl,rfl,JM E B⟩
def CN(a:Nat->Int):List D:=[eI (a 0),eI (a 1),eI (a 2),eI (a 3),eI (a 4),eI (a 5),eI (a 6),eI (a 7)]
theorem Dr(h:(AP (CN vi)).rel s z):z=.agg (c8 vi):=Zt (l:=(c8 vi).toList) h
theorem A8f(a:Nat->Int):(AP (CN a)).rel s (.agg (c8 a)):=Ack (l:=(c8 a).toList) rfl
theorem NZ(h:n<8):Dd (CN vi) n=eI (vi n):=by
 match n,h with
 |0,_=>rfl
 |1,_=>rfl
 |2,_=>rfl
 |3,_=>rfl
 |4,_=>rfl
 |5,_=>rfl
 |6,_=>rfl
 |7,_=>rfl
def QW(t:Tm):List D:=DE t.c++CN t.m
theorem YD(a:Nat->Int):(CN a).length=8:=rfl
theorem Nh(t:Tm):(QW t).length=12:=rfl
theorem A58(t:Tm):(QW t).drop 4=CN t.m:=rfl
theorem Vc{f:Array Value}(B:f.size=12)(h:∀k,k<12->∃u,f[k]? = some u/\u.oneCell'=true/\(Dd (QW vL) k).rel s u):TmV s.w f vL:=by
 obtain⟨I,E,_,d⟩:=h 0 ZbC;obtain⟨K,W,_,b⟩:=h 1 ZbC;obtain⟨L,o,_,C⟩:=h 2 ZbC;obtain⟨M,H,_,g⟩:=h 3 ZbC;obtain rfl:I=_:=d;obtain rfl:L=_:=C;obtain⟨A,n,c,rfl⟩:=NF b;obtain⟨O,q,l,rfl⟩:=NF g
 have v:∀i,i<8->f[4+i]? = some (.int .i64 (vL.m i)):=λi J=>by
  obtain⟨u,e,_,r⟩:=h (4+i) ZbC;have o:Dd (QW vL) (4+i)=eI (vL.m i):=by rw[<-NZ J,<-A58,Ja]
  rw[o]at r;rw[e];exact congrArg some r
 refine⟨_,_,A,O,n,c,q,l,?_,⟨rfl,Et b⟩,rfl,Et g⟩;refine Array.ext (by rw[B];rfl) λi F G=>?_;rw[B]at F;refine Yag ?_;rw[<-YaF,<-YaF]
 match i,F with
 |0,_=>exact E
 |1,_=>exact W
 |2,_=>exact o
 |3,_=>exact H
 |4,_=>exact v 0 ZbC
 |5,_=>exact v 1 ZbC
 |6,_=>exact v 2 ZbC
 |7,_=>exact v 3 ZbC
 |8,_=>exact v 4 ZbC
 |9,_=>exact v 5 ZbC
 |10,_=>exact v 6 ZbC
 |11,_=>exact v 7 ZbC
def BS(P:List Tm):D:=slD 114 12 (P.map QW)
theorem A5G(h:n<vc.length):(vc.map QW).getD n []=QW (BA vc n):=Zke
theorem A3p(h:(BS vc).rel s z):AcA s.w z vc:=by
 obtain⟨A,c,q,B,K,Q⟩:=h;simp only[Yap]at q B Q;refine⟨A,c,q,B,K,λE=>?_⟩;obtain⟨b,o,F,G⟩:=Q E;obtain⟨_,f,J,g,x⟩:=G 0 E;refine⟨b,o,f,J,F,g,λk C=>?_⟩;obtain⟨S,N,W,L,v⟩:=G k C;rw[g]at L;cases L;rw[A5G C]at v;refine⟨f.extract (o+k*12) (o+k*12+12),Vc (s:=s) ?_ λj X=>?_,λj X=>?_⟩
 .obtain ⟨_, u, e, _⟩:=v 11 (by simp [Nh])
  have:=(YbA.1 e).1;exact ZiI
 .obtain ⟨_,u,e,M,I⟩:=v j X
  exact⟨u,by rw[YdI,Yao (by have:=(YbA.1 e).1;obtain⟨_,V,O,_⟩:=v 11 (by simp[Nh]);have:=(YbA.1 O).1;omega)];exact e,M,I⟩
 .obtain ⟨_, V, O, _⟩:=v 11 (by simp [Nh])
  have:=(YbA.1 O).1;rw[YdI,Yao ZbC]
theorem AcX(C:r.rel s z)(M:vv.rel s u):(FA [r,vv]).rel s (.tuple #[z,u]):=⟨_,rfl,rfl,λk B=>by
 match k,B with
 |0,_=>exact⟨_,rfl,C⟩
 |1,_=>exact⟨_,rfl,M⟩
 |k+2,B=>exact absurd B ZbR⟩
def Er(R:List (Nat->Int)):D:=slD 36 8 (R.map CN)
theorem XZ(h:n<vx.length):(vx.map CN).getD n []=CN (Gj vx n):=by simp[Gj,Yaa,Yab h]
theorem A0w(h:(slD t 8 (vx.map CN)).rel s z):RowsAt .i64 t s.w z vx:=by
 obtain⟨A,c,q,B,K,Q⟩:=h;simp only[Yap]at q B Q;refine⟨A,c,q,B,K,λE=>?_⟩;obtain⟨b,o,F,G⟩:=Q E;obtain⟨_,f,I,g,x⟩:=G 0 E;refine⟨b,o,f,I,F,g,λk j C X=>?_⟩;obtain⟨S,L,M,J,v⟩:=G k C;rw[g]at J;cases J;rw[XZ C]at v;obtain⟨_,u,e,_,r⟩:=v j X;rw[NZ X]at r;have r:u=_:=r;rw[e,r]
theorem A3s(h:(Er vx).rel s z):RowsAt .i64 36 s.w z vx:=A0w h
theorem A5v(h:RowsAt .i64 t s.w z vx)(p:∀b o,(∃n c,z=.slice (some ⟨b,o,none⟩) n c)->∀k,s.S b k):(slD t 8 (vx.map CN)).rel s z:=by
 obtain⟨A,c,q,B,K,Q⟩:=h;refine⟨A,c,by rw[Yap];exact q,by rw[Yap];exact B,K,λE=>?_⟩;rw[Yap]at E;obtain⟨b,o,f,I,F,G,g⟩:=Q E;subst F;refine⟨b,o,rfl,λk C=>?_⟩;rw[Yap]at C;rw[XZ C];refine⟨rfl,f,I,G,λj X=>⟨p b o ⟨_,_,q⟩ _,_,g k j C X,rfl,?_⟩⟩;rw[NZ X];rfl
theorem NQ(h:OwnRows 36 n w z vx)(B:s.w=w)(p:∀b k,n<=b->b<w.heap.size->s.S b k):(Er vx).rel s z:=by
 subst B;refine A5v h.rows λb o ⟨q,c,r⟩ k=>?_;obtain⟨A,K⟩:=h;rcases K with⟨e,_⟩ | ⟨g,cap,cur,e,h5,h6,_⟩
 .rw [e]at r;cases r
 .rw [e]at r
  cases r;exact p _ k h5 (Bv h6)
theorem XM(h:(AP (QW vL)).rel s z):∃(b H:Bool) (A O:Option Addr) (n c C l:Nat),z=.agg (tmc b H A O n c C l vL.m)/\IsRat s.w (.bool b) (.slice A n c) (.bool H) (.slice O C l) vL.c:=by
 obtain⟨f,rfl,q,B⟩:=h;obtain⟨b,H,A,O,n,c,C,l,rfl,K⟩:=Vc (s:=s) q B;exact⟨b,H,A,O,n,c,C,l,rfl,K⟩
theorem Qa(z:Int):Abs prog 238 [AP (Cr z)] (eI z.sign):=by
 refine BI (Ag func238 ZbG ZbG) λs J C I r=>?_;rw[vs1 I];obtain⟨u,i,H,W,n,c⟩:=DU (r 0 ZbR);rw[n];exact(A47 u i H W z _ c).mono λe N ⟨b,Z⟩=>⟨_,b,Z,λj q A _ _=>rfl⟩
theorem ZO(x y:Int)(g:(Aw x.natAbs).length<=4398046511104)(l:(Aw y.natAbs).length<=4398046511104):Abs prog 215 [AP (Cr x),AP (Cr y)] (AP (Cr (x*y))):=by
 refine BI (Ag func215 ZbG ZbG) λs J C I r=>?_;rw[vs2 I];obtain⟨u,i,H,A,n,c⟩:=DU (r 0 ZbR);obtain⟨L,a,G,K,W,q⟩:=DU (r 1 ZbR);rw[n,W];exact(A6R u L i a H A G K x y _ c q g l).mono λe N ⟨y,Y,m,k,b,E,Z⟩=>⟨_,b,Z,λj B F _ _=>by subst B;exact HN F E⟩
theorem Sw(a b:Nat->Int):Abs prog 297 [AP (CN a),AP (CN b)] (eI (Iv a b)):=by
 refine BI (Ag func297 ZbG ZbG) λs J C I r=>?_;rw[vs2 I];have n:=Dr (r 0 ZbR);have W:=Dr (r 1 ZbR);rw[n,W];exact(A67 a b _).mono λe N ⟨q,Z⟩=>⟨_,q,Z,λj c A _ _=>rfl⟩
theorem GO(a b:Nat->Int):Abs prog 229 [AP (CN a),AP (CN b)] (eI (Iv a b)):=by
 refine BI (Ag func229 ZbG ZbG) λs J C I r=>?_;rw[vs2 I];have n:=Dr (r 0 ZbR);have W:=Dr (r 1 ZbR);rw[n,W];exact(A4a a b _).mono λe N ⟨q,Z⟩=>⟨_,q,Z,λj c A _ _=>rfl⟩
theorem A66(a b:Nat->Int)(t:In8 a 0 65535)(E:In8 b 0 65535)(h:In8 (CY a b) 0 65535):Abs prog 323 [AP (CN a),AP (CN b)] (FA [AP (CN (CY a b)),eI 0]):=by
 refine BI (Ag func323 ZbG ZbG) λs J C I r=>?_;rw[vs2 I];have n:=Dr (r 0 ZbR);have W:=Dr (r 1 ZbR);rw[n,W];exact(A3E a b _ t E h).mono λe N ⟨q,Z⟩=>⟨_,q,Z,λj c A _ _=>AcX (A8f _) rfl⟩
theorem YI(a:Nat->Int)(h:In8 a (-1000000) 1000000):Abs prog 289 [AP (CN a)] (eI (Da a 8)):=by
 refine BI (Ag func289 ZbG ZbG) λs J C I r=>?_;rw[vs1 I];have n:=Dr (r 0 ZbR);rw[n];exact(A1T a _ h).mono λe N ⟨b,Z⟩=>⟨_,b,Z,λj c q _ _=>rfl⟩
theorem WA(a:Nat->Int):Abs prog 299 [AP (CN a)] (ex (.int .u8 (suppTo a 8))):=by
 refine BI (Ag func299 ZbG ZbG) λs J C I r=>?_;rw[vs1 I];have n:=Dr (r 0 ZbR);rw[n];exact(Zv a _).mono λe N ⟨b,Z⟩=>⟨_,b,Z,λj c q _ _=>rfl⟩
theorem LC(a:Nat->Int)(h:In8 a 0 65535):Abs prog 298 [AP (CN a)] (eB true):=by
 refine BI (Ag func298 ZbG ZbG) λs J C I r=>?_;rw[vs1 I];have n:=Dr (r 0 ZbR);rw[n];exact(Qm a _ h).mono λe N ⟨b,Z⟩=>⟨_,b,Z,λj c q _ _=>rfl⟩
theorem YH(a:Nat->Int)(h:¬In8 a 0 65535):Abs prog 298 [AP (CN a)] (eB false):=by
 refine BI (Ag func298 ZbG ZbG) λs J C I r=>?_;rw[vs1 I];have n:=Dr (r 0 ZbR);rw[n];exact(Wz a _ h).mono λe N ⟨b,Z⟩=>⟨_,b,Z,λj c q _ _=>rfl⟩
theorem A6Z:Abs prog 129 [] (Er []):=by
 refine BI (Ag func129 ZbG ZbG) λs J C I r=>?_;obtain rfl:J=[]:=YaE I;exact(A6Y s.w).mono λe N ⟨A,c,b,P,Z⟩=>⟨_,b,Z,λj q n p _=>NQ P q p⟩
theorem ZE:Abs prog 130 [] (Er [BV 255]):=by
 refine BI (Ag func130 ZbG ZbG) λs J C I r=>?_;obtain rfl:J=[]:=YaE I;exact(QE s.w).mono λe N ⟨A,c,b,P,Z⟩=>⟨_,b,Z,λj q n p _=>NQ P q p⟩
theorem Ov:Abs prog 131 [] (Er revRows):=by
 refine BI (Ag func131 ZbG ZbG) λs J C I r=>?_;obtain rfl:J=[]:=YaE I;exact(Ou s.w).mono λe N ⟨A,c,b,P,Z⟩=>⟨_,b,Z,λj q n p _=>NQ P q p⟩
theorem PN(m:Nat)(v:m<256):Abs prog 132 [ex (.int .u8 m)] (Er (BV m::revRows)):=by
 refine BI (Ag func132 ZbG ZbG) λs J C I r=>?_;rw[vs1 I];have n:J.getD 0 undef=.int .u8 m:=r 0 ZbR;rw[n];exact(PM m _ v).mono λe N ⟨A,c,b,P,Z⟩=>⟨_,b,Z,λj q B p _=>NQ P q p⟩
theorem Uh(t u:Tm):Abs prog 50 [AP (QW t),AP (QW u)] (eB (tmB t u)):=by
 refine BI (Ag func50 ZbG ZbG) λs J C I r=>?_;rw[vs2 I];obtain⟨E,v,i,w,H,A,x,y,n,c⟩:=XM (r 0 ZbR);obtain⟨G,h,a,M,m,K,L,O,W,q⟩:=XM (r 1 ZbR);rw[n,W];exact(Ug E v i w H A x y G h a M m K L O t u _ c q).mono λe N ⟨b,Z⟩=>⟨_,b,Z,λj B F _ _=>rfl⟩
theorem A8x:(v.map AV.d)[n]? = if n<v.length then some (.d (Dd v n))else none:=by
 rw[Yav];split
 .rename_i h
  simp[Dd,h]
 .rename_i h
  simp[YbI (Nat.le_of_not_lt h)]
section
variable {P:Program} {hp:List Ow} {o:Oper} {arg:Operand->AV}
theorem A1q(F:o.op=.binOp .add t x y U)(C:arg x=.d (eN n))(M:arg y=.d (eI 1))(q:(n:Int)<9223372036854775807):Quiet P hp o arg (.d (eN (n+1))):=
 Quiet.add F C M ZbC ZbC
theorem Quiet.quo(F:o.op=.binOp .quo t x y U)(C:arg x=.d (eI a))(M:arg y=.d (eI j))(c:0<=a)(q:a<=9223372036854775807)(E:0<j):Quiet P hp o arg (.d (eI (a/j))):=
 CO F C M λw=>by
  have A:a/j<=a:=Int.ediv_le_self j c;have K:0<=a/j:=Int.ediv_nonneg c ZbC;have Q:a.tdiv j=a/j:=YbY c;have e:IntKind.i64.wrap (a/j)=a/j:=IntWalk.i64_in _ ZbC;have B:j≠0:=by omega
  simp[eqGuard,binOp,Op.intDiv,B,Q,e]
theorem Quiet.rem(F:o.op=.binOp .rem t x y U)(C:arg x=.d (ex (.int i a)))(M:arg y=.d (ex (.int i j)))(c:0<=a)(E:0<j):Quiet P hp o arg (.d (ex (.int i (a%j)))):=
 CO F C M λw=>by
  have Q:a.tmod j=a%j:=Ycq c;have A:j≠0:=by omega
  simp[eqGuard,binOp,Op.intDiv,A,Q]
theorem A1r(F:o.op=.binOp .rem t x y U)(C:arg x=.d (ex (.int i a)))(M:arg y=.d (ex (.int i j)))(E:j≠0):Quiet P hp o arg (.d (ex (.int i (a.tmod j)))):=
 CO F C M λw=>by simp[eqGuard,binOp,Op.intDiv,E]
theorem Quiet.max(G:o.op=.call { callee:=.builtin .max,args:=#[x,y],argTypes:=vt })(C:arg x=.d (ex (.int i a)))(M:arg y=.d (ex (.int i j))):Quiet P hp o arg (.d (ex (.int i (Max.max a j)))):=by
 refine⟨λbase s V B F v Z h=>?_⟩;have q:=h x Zfn;have A:=h y Zfn;rw[C]at q;rw[M]at A;have W:B x=.int i a:=q;have E:B y=.int i j:=A;refine BW (v:=.int i (Max.max a j)) ?_ ⟨GS.Le.refl s,rfl⟩
 have H:(if j>a then j else a)=Max.max a j:=by
  rw[Int.max_def];by_cases h:a<=j
  .rw [Yao h];split<;>omega
  .rw [Yaj h,Yaj ZbC]
 simp only[execOp,G,resolve,invoke,builtin,Sem.run_bind,Sem.run_pure,Result.andThen_ok,Yco,Ybb,Ycb,W,E,Builtin.max_,List.foldlM_cons,List.foldlM_nil,Builtin.max2,H]
theorem Quiet.min{k:IntKind}{a b:Int}(F:o.op=.call { callee:=.builtin .min,args:=#[x,y],argTypes:=vt })(C:arg x=.d (ex (.int k a)))(M:arg y=.d (ex (.int k b))):Quiet P hp o arg (.d (ex (.int k (Min.min a b)))):=by
 refine⟨λbase s V i E v Z h=>?_⟩;have q:=h x Zdu;have A:=h y Zdu;rw[C]at q;rw[M]at A;have W:i x=.int k a:=q;have B:i y=.int k b:=A;refine BW (v:=.int k (Min.min a b)) ?_ ⟨GS.Le.refl s,rfl⟩
 have H:(if b<a then b else a)=Min.min a b:=by
  rw[Int.min_def];by_cases h:a<=b
  .rw [Yao h,Yaj ZbC]
  .rw [Yaj h];split<;>omega
 simp only[execOp,F,resolve,invoke,builtin,Sem.run_bind,Sem.run_pure,Result.andThen_ok,Yco,Ybb,Ycb,W,B,Builtin.min_,List.foldlM_cons,List.foldlM_nil,Builtin.min2,H]
theorem A4k(G:o.op=.binOp .or t x y U)(C:arg x=.d (ex (.int .u8 (n:Nat))))(M:arg y=.d (ex (.int .u8 (b:Nat))))(B:n<256)(E:b<256):Quiet P hp o arg (.d (ex (.int .u8 ((n ||| b:Nat):Int)))):=
 CO G C M λw=>by
  have q:(BitVec.ofInt 8 (n:Int) ||| BitVec.ofInt 8 (b:Int)).toNat=n ||| b:=by
   rw[Yeg,Yea,Yea,YcD,YcD,YaV B,YaV E]
  have A:n ||| b<256:=YeC (n:=8) B E
  have K:IntKind.u8.wrap ((n ||| b:Nat):Int)=((n ||| b:Nat):Int):=by
   unfold IntKind.wrap;have:(((n ||| b:Nat):Int))%(2^IntKind.u8.bits:Int)=((n ||| b:Nat):Int):=Int.emod_eq_of_lt ZbC (by show _<(256:Int);omega);simp[this,IntKind.signed]
  have Q:(BitVec.ofInt IntKind.u8.bits (n:Int) ||| BitVec.ofInt IntKind.u8.bits (b:Int)).toNat=n ||| b:=q
  have k:n%2^IntKind.u8.bits=n:=YaV B;have F:b%2^IntKind.u8.bits=b:=YaV E;simp[eqGuard,binOp,Op.intBits,k,F,K]
theorem Xj[Inhabited e](F:o.op=.indexAddr t x y)(C:HO hp (arg x)=some (slD k f (vu.map vK)))(M:arg y=.d (ex (.int i (vj:Nat))))(L:Tab P t (.slice n) b T z)(A:Tab P n d m c u)(v:m=f)(B:vj<vu.length):Quiet P hp o arg (.d (Fk k (vK (vu.getD vj default)))):=by
 have q:=Quiet.index (P:=P) (hp:=hp) F C M L A v ZbC ZiI
 have W:(vu.map vK).getD ((vj:Nat):Int).toNat []=vK (vu.getD vj default):=by
  show(vu.map vK).getD vj []=_;simp[Yaa,B]
 rwa [W]at q
theorem Xi(F:o.op=.load t x)(C:arg x=.d (Fk T v))(L:Tab P t d n b z)(q:ES d=true)(g:v.length=n):Quiet P hp o arg (.d (AP v)):=by
 have:=LY (P:=P) (hp:=hp) F C L q ZbC;rwa [<-g,YaY]at this
theorem Tc{hp:List Ow}:∀(l:List D),A19 hp (l.map .d)=some l
 |[]=>rfl
 |x::l=>by simp only[Ybb,A19,HO,Tc l]
theorem ZH(F:o.op=.load t x)(C:arg x=.ptr m c)(A:hp[m]? = some (.var T (v.map .d)))(L:Tab P t d n b z)(q:ES d=true)(g:Nat.ble (c+n) v.length=true):Quiet P hp o arg (.d (AP ((v.drop c).take n))):=
 ZG F C A L q (by rw[<-Yeb,<-Yec];exact Tc _) (by have:=YbE g;simpa using this)
theorem OB(F:o.op=.load t x)(C:arg x=.ptr m c)(A:hp[m]? = some (.var T (v.map .d)))(L:Tab P t d n b z)(q:ES d=false)(g:c<v.length):Quiet P hp o arg (.d (Dd v c)):=
 Oz F C A L q (by rw[A8x,Yao g])
end
section
variable {P:Program} {s0:An} {n:Nat} {ops:Array Oper} {Q:Exit->AS->Prop} {rest:List Oper} {o:Oper} {σ:AS}
theorem A24{b id m:Nat}(F:o.op=.store t x y)(A:o.guard=none)(Z:o.dst=none)(C:σ.arg x=.ptr id 0)(M:σ.arg y=.d (AP v))(B:σ.hp[id]? = some (.var U R))(L:Tab P t d m b z)(q:v.length=m)(E:R.length=m)
  (h:AWl P s0 n ops Q rest { fr:=σ.fr,hp:=σ.hp.set id (.var U (v.map .d)) }):AWl P s0 n ops Q (o::rest) σ:=by
 refine TF F A Z C M B L q ZbC ?_
 have:Kx R 0 (v.map .d)=v.map .d:=by
  unfold Kx;rw[Ycf,Ycy,YaN ZiI,YbD]
 rw[this];exact h
theorem TE{b id m off:Nat}(F:o.op=.store t x y)(R:o.guard=none)(Z:o.dst=none)(C:σ.arg x=.ptr id off)(M:σ.arg y=.d (AP vn))(A:σ.hp[id]? = some (.var U (v.map .d)))(L:Tab P t d m b z)(q:vn.length=m)(B:Nat.ble (off+m) v.length=true)
  (h:AWl P s0 n ops Q rest { fr:=σ.fr,hp:=σ.hp.set id (.var U ((TQ v off vn).map .d)) }):AWl P s0 n ops Q (o::rest) σ:=by
 refine TF F R Z C M A L q (by have:=YbE B;simpa using this) ?_;have:Kx (v.map .d) off (vn.map .d)=(TQ v off vn).map .d:=by simp[Kx,TQ]
 rw[this];exact h
theorem QI{b id off:Nat}(F:o.op=.store t x y)(R:o.guard=none)(Z:o.dst=none)(C:σ.arg x=.ptr id off)(M:σ.arg y=.d r)(A:σ.hp[id]? = some (.var U (v.map .d)))(L:Tab P t d 1 b z)(q:One σ.hp (.d r))(B:off<v.length)
  (h:AWl P s0 n ops Q rest { fr:=σ.fr,hp:=σ.hp.set id (.var U ((v.set off r).map .d)) }):AWl P s0 n ops Q (o::rest) σ:=by
 refine TG F R Z C M A L q ZcZ ?_;have:(v.map AV.d).set off (.d r)=(v.set off r).map .d:=by rw[Yes]
 rw[this];exact h
theorem A27{m b:Nat}(F:o.op=.alloc t)(R:o.guard=none)(L:Tab P t d m b z)(e:Nat.beq t 335=false)(q:Ih z.cells.toList=true)(A:WL o.dst n=true)(h:AWl P s0 n ops Q rest (σ.new o.dst (.ptr σ.hp.length 0) (.var t ((z.cells.toList.map ex).map .d)))):AWl P s0 n ops Q (o::rest) σ:=by
 refine AWl.alloc F R L (YaJ e) q A ?_;have:exs z.cells.toList=(z.cells.toList.map ex).map .d:=by simp[exs]
 rw[this];exact h
end
def Ade(h:List (Nat×AV)):Operand->Option AV
 |.tmp t=>Ce h t
 |.const v=>some (.d (ex v))
 |.global g=>some (.d (ex (.pointer (some ⟨g,0,none⟩))))
 |.func f=>some (.d (ex (.func (.func f) #[] #[])))
theorem ao(q:Ade vb x=some h):AS.arg ⟨vb,H⟩ x=h:=by
 cases x with
 |tmp t=>
  show(Ce vb t).getD (.d Cs)=h;have q:Ce vb t=some h:=q;rw[q];rfl
 |const v=>exact Zkf
 |global g=>exact Zkf
 |func f=>exact Zkf
theorem A1s{o:Oper}(F:o.op=.call { callee:=.builtin .len,args:=#[x],argTypes:=#[t] })(C:HO H (vC x)=some (slD m c (vu.map vK)))(L:Tab P t (.slice n) b T z):Quiet P H o vC (.d (eN vu.length)):=by
 have:=Quiet.len (P:=P) F C L;rwa [Yap]at this
def Qt:List (Nat×Nat)->Nat->Option Nat
 |[],_=>none
 |p::r,t=>bif Nat.beq p.1 t then some p.2 else Qt r t
theorem SI:∀{z:List (Nat×Nat)} {t j:Nat},Qt z t=some j->∃p,z.find? (λp=>p.1==t)=some p/\p.2=j
 |[],_,_,h=>by cases h
 |p::r,t,j,h=>by
  unfold Qt at h
  cases E:Nat.beq p.1 t with
  |true=>rw[E]at h;cases h;exact⟨p,by rw[YeK,Yan E];simp,rfl⟩
  |false=>
   rw[E]at h;obtain⟨q,A,B⟩:=SI h;refine⟨q,?_,B⟩;rw[YeK];have:(p.1==t)=false:=by simpa using YaJ E
   rw[this];exact A
theorem SJ:∀{z:List (Nat×Nat)} {t:Nat},Qt z t=none->z.find? (λp=>p.1==t)=none
 |[],_,_=>rfl
 |p::r,t,h=>by
  unfold Qt at h
  cases E:Nat.beq p.1 t with
  |true=>exact Zja
  |false=>
   rw[E]at h;rw[YeK];have:(p.1==t)=false:=by simpa using YaJ E
   rw[this];exact SJ h
def Iw:Option HR->Option AV
 |some (.av r)=>some r
 |_=>none
def Add(h:List (Nat×AV))(d:List HR)(z:List (Nat×Nat)):Operand->Option AV
 |.tmp t=>match Qt z t with
  |some j=>Iw d[j]?
  |none=>Ce h t
 |.const v=>some (.d (ex v))
 |.global _=>none
 |.func f=>some (.d (ex (.func (.func f) #[] #[])))
theorem ah{fr:List (Nat×AV)}{hp:List Ow}{rs:List HR}{es:List (Nat×Nat)}{x:Operand}{av:AV}(h:Add fr rs es x=some av):DN ⟨fr,hp⟩ rs es x=av:=by
 cases x with
 | tmp t=>
  replace h:(match Qt es t with
   | some j=>Iw rs[j]?
   | none=>Ce fr t)=some av:=h
  show (match es.find? (λp=>p.1==t) with
   | some p=>match rs[p.2]? with
    | some h=>h.val
    | none=>.d Cs
   | none=>(Ce fr t).getD (.d Cs))=av
  cases hf:Qt es t with
  | some j=>
   rw [hf] at h
   replace h:Iw rs[j]? = some av:=h
   obtain ⟨p,h1,h2⟩:=SI hf
   simp only [h1,h2]
   cases hr:rs[j]? with
   | none=>rw [hr] at h;cases h
   | some r=>
    rw [hr] at h
    cases r with
    | av r=>cases h;rfl
    | new T cs=>cases h
  | none=>
   rw [hf] at h
   simp only [SJ hf]
   have h:Ce fr t=some av:=h
   rw [h];rfl
 | const v=>exact Yag h
 | global g=>cases h
 | func f=>exact Yag h
def Gp:List Ow->Ow->Option (List Ow)
 |[],x=>some [x]
 |o::l,x=>match Gp l x with
  |some r=>some (o::r)
  |none=>none
theorem Fi:∀{l:List Ow} {x:Ow} {r:List Ow},Gp l x=some r->r=l++[x]
 |[],x,r,h=>by cases h;rfl
 |o::l,x,r,h=>by
  unfold Gp at h;split at h
  .rename_i q b
   cases h;rw[Fi b];rfl
  .cases h
def Ik:List Ow->Option Nat
 |[]=>some 0
 |_::l=>match Ik l with
  |some k=>some (k+1)
  |none=>none
theorem FX:∀{l:List Ow} {k:Nat},Ik l=some k->k=l.length
 |[],k,h=>by cases h;rfl
 |o::l,k,h=>by
  unfold Ik at h;split at h
  .rename_i r b
   cases h;rw[FX b];rfl
  .cases h
def Gk:List Ow->Nat->Ow->Option (List Ow)
 |[],_,_=>none
 |_::l,0,x=>some (x::l)
 |o::l,i+1,x=>match Gk l i x with
  |some r=>some (o::r)
  |none=>none
theorem Ev:∀{l:List Ow} {i:Nat} {x:Ow} {r:List Ow},Gk l i x=some r->r=l.set i x
 |[],_,_,_,h=>by cases h
 |_::l,0,x,r,h=>by cases h;rfl
 |o::l,i+1,x,r,h=>by
  unfold Gk at h;split at h
  .rename_i q b
   cases h;rw[Ev b];rfl
  .cases h
def exO:List Value->Option (List D)
 |[]=>some []
 |v::l=>match exO l with
  |some r=>some (ex v::r)
  |none=>none
theorem SP:∀{l:List Value} {r:List D},exO l=some r->r=l.map ex
 |[],r,h=>by cases h;rfl
 |v::l,r,h=>by
  unfold exO at h;split at h
  .rename_i q b
   cases h;rw[SP b];rfl
  .cases h
def Qf:Nat->List D->Option (List D)
 |0,_=>some []
 |_+1,[]=>none
 |n+1,d::l=>match Qf n l with
  |some r=>some (d::r)
  |none=>none
theorem NI:∀{n:Nat} {l r:List D},Qf n l=some r->r=l.take n/\n<=l.length
 |0,l,r,h=>by cases h;exact⟨rfl,Yay _⟩
 |n+1,[],r,h=>by cases h
 |n+1,d::l,r,h=>by
  unfold Qf at h;split at h
  .rename_i B b
   cases h;obtain⟨q,A⟩:=NI b;exact⟨by rw[q];rfl,by simpa using A⟩
  .cases h
def A5d:Nat->Nat->List D->Option (List D)
 |0,n,l=>Qf n l
 |_+1,_,[]=>none
 |o+1,n,_::l=>A5d o n l
theorem A2e:∀{o n:Nat} {l r:List D},A5d o n l=some r->r=(l.drop o).take n/\o+n<=l.length
 |0,n,l,r,h=>by
  obtain⟨q,A⟩:=NI (n:=n) (l:=l) (r:=r) (by cases l<;>exact h);exact⟨q,by omega⟩
 |o+1,n,[],r,h=>by cases h
 |o+1,n,d::l,r,h=>by
  obtain⟨q,A⟩:=A2e (o:=o) Zea;exact⟨q,by simp;omega⟩
def atO:Nat->List D->Option D
 |_,[]=>none
 |0,d::_=>some d
 |i+1,_::l=>atO i l
theorem WS:∀{i:Nat} {l:List D} {d:D},atO i l=some d->d=Dd l i/\i<l.length
 |i,[],d,h=>by cases i<;>cases h
 |0,x::l,d,h=>by cases h;exact⟨rfl,by simp⟩
 |i+1,x::l,d,h=>by
  obtain⟨q,A⟩:=WS (i:=i) Zea;exact⟨q,by simpa using A⟩
def A5E:List D->List D->Option (List D)
 |[],r=>some r
 |d::l,r=>match A5E l r with
  |some x=>some (d::x)
  |none=>none
theorem A2s:∀{l r x:List D},A5E l r=some x->x=l++r
 |[],r,x,h=>by cases h;rfl
 |d::l,r,x,h=>by
  unfold A5E at h;split at h
  .rename_i N b
   cases h;rw[A2s b];rfl
  .cases h
def Qu:Nat->List D->Option (List D)
 |0,l=>some l
 |_+1,[]=>none
 |n+1,_::l=>Qu n l
theorem Od:∀{n:Nat} {l r:List D},Qu n l=some r->r=l.drop n/\n<=l.length
 |0,l,r,h=>by cases l<;>(cases h;exact⟨rfl,Yay _⟩)
 |n+1,[],r,h=>by cases h
 |n+1,d::l,r,h=>by
  obtain⟨q,A⟩:=Od (n:=n) Zea;exact⟨q,by simpa using A⟩
def VF:List D->Nat->List D->Option (List D)
 |l,0,z=>match Qu z.length l with
  |some r=>A5E z r
  |none=>none
 |[],_+1,_=>none
 |d::l,o+1,z=>match VF l o z with
  |some r=>some (d::r)
  |none=>none
theorem Rb:∀{l:List D} {o:Nat} {z r:List D},VF l o z=some r->r=TQ l o z/\o+z.length<=l.length
 |l,0,z,r,h=>by
  have b:(match Qu z.length l with
   |some r=>A5E z r
   |none=>none)=some r:=by cases l<;>exact h
  split at b
  .rename_i B q
   obtain⟨A,K⟩:=Od q;rw[A2s b,A];exact⟨by simp[TQ],by omega⟩
  .cases b
 |[],o+1,z,r,h=>by cases h
 |d::l,o+1,z,r,h=>by
  unfold VF at h;split at h
  .rename_i B q
   cases h;obtain⟨A,K⟩:=Rb q;rw[A];refine⟨?_,by simp;omega⟩;simp only[TQ,Ybl,Ycn];rw[show o+1+z.length=(o+z.length)+1 by omega,Ybn]
  .cases h
def IZ(id:Nat)(x:D):List (Nat×AV)->Option (List (Nat×AV))
 |[]=>some []
 |(t,.own j)::l=>match IZ id x l with
  |some r=>bif Nat.beq j id then some ((t,.d x)::r)else some ((t,.own j)::r)
  |none=>none
 |(t,.fn f J)::l=>match IZ id x l with
  |some r=>bif J.contains id then some ((t,.d Cs)::r)else some ((t,.fn f J)::r)
  |none=>none
 |(t,G)::l=>match IZ id x l with
  |some r=>some ((t,G)::r)
  |none=>none
theorem Of{id:Nat}{x:D}:∀{l r:List (Nat×AV)},IZ id x l=some r->r=l.map λp=>(p.1,down id x p.2)
 |[],r,h=>by cases h;rfl
 |(t,G)::l,r,h=>by
  have key:∃A,IZ id x l=some A/\r=(t,down id x G)::A:=by
   cases G with
   |d y=>
    replace h:(match IZ id x l with
     |some r=>some ((t,.d y)::r)
     |none=>none)=some r:=h
    split at h
    .rename_i A b;cases h;exact⟨A,b,rfl⟩
    .cases h
   |fn f J=>
    replace h:(match IZ id x l with
     |some r=>bif J.contains id then some ((t,.d Cs)::r)else some ((t,.fn f J)::r)
     |none=>none)=some r:=h
    split at h
    .rename_i A b
     cases E:J.contains id with
     |true=>rw[E]at h;cases h;exact⟨A,b,by simp only[down,E];rfl⟩
     |false=>rw[E]at h;cases h;exact⟨A,b,by simp only[down,E];rfl⟩
    .cases h
   |ptr i o=>
    replace h:(match IZ id x l with
     |some r=>some ((t,.ptr i o)::r)
     |none=>none)=some r:=h
    split at h
    .rename_i A b;cases h;exact⟨A,b,rfl⟩
    .cases h
   |own j=>
    replace h:(match IZ id x l with
     |some r=>bif Nat.beq j id then some ((t,.d x)::r)else some ((t,.own j)::r)
     |none=>none)=some r:=h
    split at h
    .rename_i A b
     cases E:Nat.beq j id with
     |true=>rw[E]at h;cases h;exact⟨A,b,by simp[down,E]⟩
     |false=>rw[E]at h;cases h;exact⟨A,b,by simp[down,E]⟩
    .cases h
  obtain⟨A,q,rfl⟩:=key;rw[Of q];rfl
def GA(id:Nat):List AV->Bool
 |[]=>true
 |.own j::l=>bif Nat.beq j id then false else GA id l
 |.fn _ J::l=>bif J.contains id then false else GA id l
 |_::l=>GA id l
def Ir(id:Nat):List Ow->Bool
 |[]=>true
 |.var _ c::l=>GA id c&&Ir id l
 |.pin c::l=>GA id (c.map (·.2))&&Ir id l
 |_::l=>Ir id l
theorem GL{id:Nat}{x:D}:∀{l:List AV},GA id l=true->l.map (down id x)=l
 |[],_=>rfl
 |.d y::l,h=>by rw[Ybb,GL Zea];rfl
 |.ptr _ _::l,h=>by rw[Ybb,GL Zea];rfl
 |.own j::l,h=>by
  replace h:(bif Nat.beq j id then false else GA id l)=true:=h
  cases E:Nat.beq j id with
  |true=>exact Zja
  |false=>rw[E]at h;rw[Ybb,GL Zea];exact Ziy
 |.fn f J::l,h=>by
  replace h:(bif J.contains id then false else GA id l)=true:=h
  cases E:J.contains id with
  |true=>exact Zja
  |false=>rw[E]at h;rw[Ybb,GL Zea];exact Ziy
theorem Sg{x:D}:∀{l:List (Value×AV)},GA n (l.map (·.2))=true->(l.map λp=>(p.1,down n x p.2))=l:=λ{l} h=>by
 have q:=GL (x:=x) h;apply YbX;intro k;have A:=congrArg (λy=>y[k]?) q;simp only[Yav]at A ⊢
 cases B:l[k]? with
 |none=>rfl
 |some p=>
  rw[B]at A;simp only[Ydd,YcS]at A ⊢;rw[A]
theorem Ff{id:Nat}{x:D}:∀{l:List Ow},Ir id l=true->l.map (Ow.mapA (down id x))=l
 |[],_=>rfl
 |.var T c::l,h=>by
  simp only[Ir,Yam]at h;rw[Ybb,Ff h.2];simp only[Ow.mapA,GL h.1]
 |.pin c::l,h=>by
  simp only[Ir,Yam]at h;rw[Ybb,Ff h.2];simp only[Ow.mapA,Sg h.1]
 |.dead::l,h=>by rw[Ybb,Ff Zea];rfl
 |.row _ _ _::l,h=>by rw[Ybb,Ff Zea];rfl
 |.obj _::l,h=>by rw[Ybb,Ff Zea];rfl
theorem Qj{id:Nat}:∀l:List D,GA id (l.map .d)=true
 |[]=>rfl
 |_::l=>Qj (id:=id) l
def PlainHp(id:Nat):List Ow->Prop
 |[]=>True
 |.var _ c::l=>GA id c=true/\PlainHp id l
 |.pin c::l=>GA id (c.map (·.2))=true/\PlainHp id l
 |_::l=>PlainHp id l
theorem PlainHp.ok{id:Nat}:∀{l:List Ow},PlainHp id l->Ir id l=true
 |[],_=>rfl
 |.var T c::l,h=>by simp only[Ir,Yam];exact⟨h.1,PlainHp.ok h.2⟩
 |.pin c::l,h=>by simp only[Ir,Yam];exact⟨h.1,PlainHp.ok h.2⟩
 |.dead::l,h=>PlainHp.ok (l:=l) h
 |.row _ _ _::l,h=>PlainHp.ok (l:=l) h
 |.obj _::l,h=>PlainHp.ok (l:=l) h
section
variable {id:Nat} {l:List Ow}
theorem PlainHp.nil:PlainHp id []:=trivial
theorem PlainHp.var{c:List D}(h:PlainHp id l):PlainHp id (.var t (c.map .d)::l):=⟨Qj c,h⟩
theorem PlainHp.varA{c:List AV}(G:GA id c=true)(h:PlainHp id l):PlainHp id (.var t c::l):=⟨G,h⟩
theorem PlainHp.pin{c:List (Value×AV)}(G:GA id (c.map (·.2))=true)(h:PlainHp id l):PlainHp id (.pin c::l):=⟨G,h⟩
theorem PlainHp.row{T sz:Nat}{r:List (List D)}(h:PlainHp id l):PlainHp id (.row T sz r::l):=h
end
def WU:List (Nat×AV)->List Ow->Nat->List Oper->List HR->Option AS
 |h,F,0,_,_=>some ⟨h,F⟩
 |h,F,m+1,o::L,.av r::q=>match o.dst with
  |some d=>WU ((d,r)::h) F m L q
  |none=>WU h F m L q
 |h,F,m+1,o::L,.new T f::q=>match o.dst,Ik F,exO f with
  |some d,some k,some c=>match Gp F (.var T (c.map .d))with
   |some P=>WU ((d,.ptr k 0)::h) P m L q
   |none=>none
  |_,_,_=>none
 |_,_,_,_,_=>none
theorem Rn:∀{m:Nat} {C:List (Nat×AV)} {F:List Ow} {L:List Oper} {E:List HR} {y:AS},WU C F m L E=some y->E.length=m->y=AS.aft ⟨C,F⟩ (L.take m) E
 |0,C,F,L,E,y,h,I=>by
  obtain rfl:E=[]:=YaE I;cases L<;>(cases h;rfl)
 |m+1,C,F,[],[],y,h,I=>by cases I
 |m+1,C,F,[],r::E,y,h,I=>by cases r<;>cases h
 |m+1,C,F,o::L,[],y,h,I=>by cases I
 |m+1,C,F,o::L,.av r::E,y,h,I=>by
  rw[Ybl];have I:E.length=m:=by simpa using I
  unfold WU at h
  cases q:o.dst with
  |some d=>
   rw[q]at h;have:=Rn h I;rw[this];simp only[AS.aft,AS.put,q]
  |none=>
   rw[q]at h;have:=Rn h I;rw[this];simp only[AS.aft,AS.put,q]
 |m+1,C,F,o::L,.new T f::E,y,h,I=>by
  rw[Ybl];have I:E.length=m:=by simpa using I
  unfold WU at h;split at h
  .rename_i d k c q B G
   split at h
   .rename_i P a
    have:=Rn h I;rw[this];have W:=Fi a;have A:=FX B;have H:=SP G;subst W;subst A;subst H;simp only[AS.aft,AS.new,AS.put,q];congr 3;simp[exs]
   .cases h
  .cases h
section
variable {P:Program} {s0:An} {n:Nat} {ops:Array Oper} {Q:Exit->AS->Prop} {rest:List Oper} {o:Oper} {fr:List (Nat×AV)} {hp:List Ow}
theorem AWl.q{d:Nat}{r:AV}(A:o.dst=some d)(R:o.guard=none)(a:BN o.op=true)(q:Nat.blt d n=true)(m:Quiet P hp o (AS.arg ⟨fr,hp⟩) r)(h:AWl P s0 n ops Q rest ⟨(d,r)::fr,hp⟩):AWl P s0 n ops Q (o::rest) ⟨fr,hp⟩:=
 A4L R a (by rw[A];exact q) m (by rw[A];exact h)
theorem Abr{d:Nat}{A:Bool}(R:o.guard=some (b,A))(M:(ops[b]?).bind (·.dst)=some T)(I:Ce fr T=some (.d (eB A)))(N:Nat.blt T n=true)(r:o.dst=some d)(a:BN o.op=true)(B:Nat.blt d n=true)(m:Quiet P hp o (AS.arg ⟨fr,hp⟩) h)(q:AWl P s0 n ops Q rest ⟨(d,h)::fr,hp⟩):AWl P s0 n ops Q (o::rest) ⟨fr,hp⟩:=
 A25 R M I ZeJ a (by rw[r];exact B) m (by rw[r];exact q)
theorem Abq{d:Nat}{q:Bool}(R:o.guard=some (b,q))(M:(ops[b]?).bind (·.dst)=some T)(I:Ce fr T=some (.d (ex z)))(B:isB z q=false)(N:Nat.blt T n=true)(r:o.dst=some d)(A:Nat.blt d n=true)(h:AWl P s0 n ops Q rest ⟨(d,.d (ex undef))::fr,hp⟩):AWl P s0 n ops Q (o::rest) ⟨fr,hp⟩:=
 A4K R M I B ZeJ (by rw[r];exact A) (by rw[r];exact h)
theorem AWl.al{m b k A:Nat}(F:o.op=.alloc t)(r:o.dst=some A)(R:o.guard=none)(L:Tab P t d m b z)(e:Nat.beq t 335=false)(q:Ih z.cells.toList=true)(C:Nat.blt A n=true)(G:exO z.cells.toList=some v)(B:Ik hp=some k)(a:Gp hp (.var t (v.map .d))=some H)(h:AWl P s0 n ops Q rest ⟨(A,.ptr k 0)::fr,H⟩):AWl P s0 n ops Q (o::rest) ⟨fr,hp⟩:=by
 refine A27 F R L e q (by rw[r];exact C) ?_;rw[SP G]at a;exact ZiO
theorem Abu{k q:Nat}(F:o.op=.box t x)(r:o.dst=some q)(R:o.guard=none)(C:AS.arg ⟨fr,hp⟩ x=.d (AP v))(e:Nat.beq t 335=false)(d:Nat.blt q n=true)(B:Ik hp=some k)(a:Gp hp (.var t (v.map .d))=some H)(h:AWl P s0 n ops Q rest ⟨(q,.ptr k 0)::fr,H⟩):AWl P s0 n ops Q (o::rest) ⟨fr,hp⟩:=by
 refine AWl.box F R C (YaJ e) (by rw[r];exact d) ?_;exact ZiO
theorem A9i{k A:Nat}(F:o.op=.box t x)(r:o.dst=some A)(R:o.guard=none)(C:AS.arg ⟨fr,hp⟩ x=.d (ex z))(q:z.oneCell'=true)(e:Nat.beq t 335=false)(d:Nat.blt A n=true)(B:Ik hp=some k)(a:Gp hp (.var t ([ex z].map .d))=some H)(h:AWl P s0 n ops Q rest ⟨(A,.ptr k 0)::fr,H⟩):AWl P s0 n ops Q (o::rest) ⟨fr,hp⟩:=by
 refine A7B F R C q (YaJ e) (by rw[r];exact d) ?_;exact ZiO
theorem A9e{b id m:Nat}(F:o.op=.store t x y)(A:o.guard=none)(Z:o.dst=none)(C:AS.arg ⟨fr,hp⟩ x=.ptr id 0)(M:AS.arg ⟨fr,hp⟩ y=.d (AP v))(B:hp[id]? = some (.var U R))(L:Tab P t d m b z)(q:v.length=m)(E:R.length=m)(a:Gk hp id (.var U (v.map .d))=some H)
  (h:AWl P s0 n ops Q rest ⟨fr,H⟩):AWl P s0 n ops Q (o::rest) ⟨fr,hp⟩:=
 A24 F A Z C M B L q E (by rw[Ev a]at h;exact h)
theorem A9f{b id m off:Nat}(F:o.op=.store t x y)(R:o.guard=none)(Z:o.dst=none)(C:AS.arg ⟨fr,hp⟩ x=.ptr id off)(M:AS.arg ⟨fr,hp⟩ y=.d (AP vn))(B:hp[id]? = some (.var U (v.map .d)))(L:Tab P t d m b z)(A:vn.length=m)(G:VF v off vn=some xe)(a:Gk hp id (.var U (xe.map .d))=some H)
  (h:AWl P s0 n ops Q rest ⟨fr,H⟩):AWl P s0 n ops Q (o::rest) ⟨fr,hp⟩:=by
 obtain⟨W,q⟩:=Rb G;refine TE F R Z C M B L A (by rw[<-A];exact Ydg q) ?_;rw[Ev a,W]at h;exact h
theorem A7z{b id off:Nat}(F:o.op=.store t x y)(R:o.guard=none)(Z:o.dst=none)(C:AS.arg ⟨fr,hp⟩ x=.ptr id off)(M:AS.arg ⟨fr,hp⟩ y=.d r)(B:hp[id]? = some (.var U (v.map .d)))(L:Tab P t d 1 b z)(q:One hp (.d r))(G:VF v off [r]=some vn)(a:Gk hp id (.var U (vn.map .d))=some H)
  (h:AWl P s0 n ops Q rest ⟨fr,H⟩):AWl P s0 n ops Q (o::rest) ⟨fr,hp⟩:=by
 obtain⟨W,A⟩:=Rb G;have O:off<v.length:=A;refine QI F R Z C M B L q O ?_;rw[Ev a,W]at h
 have:TQ v off [r]=v.set off r:=by
  unfold TQ;exact Zjr
 rw[this]at h;exact h
theorem AWl.app{t T K sz bytes id m b e:Nat}{B r2:List (List D)}(F:o.op=.call { callee:=.builtin .append,args:=#[x,y],argTypes:=#[t,t] })(r:o.dst=some e)(R:o.guard=none)(C:AS.arg ⟨fr,hp⟩ x=.own id)(M:HO hp (AS.arg ⟨fr,hp⟩ y)=some (slD K sz r2))(E:hp[id]? = some (.row T sz B))(L:Tab P t (.slice T) m b u)(A:Tab P T d sz bytes z)(J:z.cells.size=sz)(q:Nat.blt e n=true)(G:(B.length+r2.length)*bytes<=140737488355328)(I:B.length+r2.length<=4611686018427387904)
  (p:IZ id (slD T sz B) fr=some vb) (N:PlainHp id hp) (a:Gk hp id (.row T sz (B++r2))=some H) (h:AWl P s0 n ops Q rest ⟨(e,.own id)::vb,H⟩):AWl P s0 n ops Q (o::rest) ⟨fr,hp⟩:=by
 refine TH F R C M E L A J (by rw[r];exact q) G I ?_;rw[Ev a,Of p]at h;simp only[AS.appd,AS.put,r,Ff N.ok];exact h
theorem Abv{t T m b l bytes k e:Nat}(F:o.op=.buildSlice t 0 #[])(r:o.dst=some e)(R:o.guard=none)(L:Tab P t (.slice T) m b u)(A:Tab P T d l bytes z)(J:Nat.beq T 335=false)(c:Nat.blt 0 l=true)(q:Nat.blt e n=true)(B:Ik hp=some k)(a:Gp hp (.row T l [])=some H)(h:AWl P s0 n ops Q rest ⟨(e,.own k)::fr,H⟩):AWl P s0 n ops Q (o::rest) ⟨fr,hp⟩:=by
 refine A26 F R L A (YaJ J) ZeK (by rw[r];exact q) ?_;exact ZiO
theorem A9h{t T m b l bytes k e:Nat}(F:o.op=.makeSlice t x y)(r:o.dst=some e)(R:o.guard=none)(C:AS.arg ⟨fr,hp⟩ x=.d (eI 0))(M:AS.arg ⟨fr,hp⟩ y=.d (eI a))(L:Tab P t (.slice T) m b u)(E:Tab P T d l bytes z)(K:0<=a)(G:a<=1000000000)(I:Nat.ble bytes 65536=true)(J:Nat.beq T 335=false)(c:Nat.blt 0 l=true)(A:Nat.blt e n=true)(B:Ik hp=some k)(q:Gp hp (.row T l [])=some H)(h:AWl P s0 n ops Q rest ⟨(e,.own k)::fr,H⟩):AWl P s0 n ops Q (o::rest) ⟨fr,hp⟩:=by
 refine A4M F R C M L E K G (YbE I) (YaJ J) ZeK (by rw[r];exact A) ?_;rw[Fi q,FX B]at h;exact Zhn
theorem AWp.dr{id:Nat}{L:List Oper}(v:DrawOk P s0 n id ua L vm Q)(z:List (List (Nat×Nat)))(x:List (List Nat))(rs:List HR)(q:(z.length==x.length&&z.length==rs.length&&Nat.ble rs.length L.length)=true)(C:Ee L (Gq 0 z x)=true)(d:Ia L z.length n=true)(steps:HSteps P ⟨fr,hp⟩ rs L z rs)
  (t:WU fr hp rs.length L rs=some ve) (tail:AWl P s0 n L.toArray Q (L.drop z.length) ve):AWp P s0 n (.region id ua true) vm ⟨fr,hp⟩:=by
 refine A7y v z x rs q C d steps ?_;simp only[Yam,YcI]at q;rw[q.1.2,<-Rn t rfl,<-q.1.2];exact tail
end
section
variable {P:Program} {hp:List Ow} {o:Oper} {arg:Operand->AV}
theorem A4l(F:o.op=.load t x)(C:arg x=.d (Fk T v))(L:Tab P t d n b z)(q:ES d=true)(Y:Qf n v=some vn):Quiet P hp o arg (.d (AP vn)):=by
 obtain⟨W,A⟩:=NI Y;rw[W];exact LY F C L q A
theorem A1u(F:o.op=.load t x)(C:arg x=.d (Fk T v))(L:Tab P t d n b z)(q:ES d=false)(Y:atO 0 v=some r):Quiet P hp o arg (.d r):=by
 obtain⟨W,A⟩:=WS Y;rw[W];exact OA F C L q A
theorem A4m(F:o.op=.load t x)(C:arg x=.ptr m c)(B:hp[m]? = some (.var T (v.map .d)))(L:Tab P t d n b z)(q:ES d=true)(Y:A5d c n v=some vn):Quiet P hp o arg (.d (AP vn)):=by
 obtain⟨W,A⟩:=A2e Y;rw[W];exact ZH F C B L q (Ydg A)
theorem A1v(F:o.op=.load t x)(C:arg x=.ptr m c)(B:hp[m]? = some (.var T (v.map .d)))(L:Tab P t d n b z)(q:ES d=false)(Y:atO c v=some r):Quiet P hp o arg (.d r):=by
 obtain⟨W,A⟩:=WS Y;rw[W];exact OB F C B L q A
theorem Quiet.ext{i:Nat}(F:o.op=.extract x i)(C:arg x=.d (FA v))(Y:atO i v=some r):Quiet P hp o arg (.d r):=by
 obtain⟨W,q⟩:=WS Y;rw[W];exact Quiet.extract F C q
theorem A1x(F:o.op=.fieldAddr t x n)(C:arg x=.d (Fk k v))(B:Tab P t (.struct vV) b T z)(p:vV[n]? = some uc)(q:Tab P uc.type d m c u)(g:Nat.beq m 0=false)(Y:Qu uc.offset v=some vn):Quiet P hp o arg (.d (Fk k vn)):=by
 obtain⟨W,A⟩:=Od Y;rw[W];exact OF F C B p q (YaJ g)
theorem A1w(F:o.op=.fieldAddr t x n)(C:arg x=.ptr k f)(A:Tab P t (.struct vV) b T z)(p:vV[n]? = some uc)(q:Tab P uc.type d m c u)(g:Nat.beq m 0=false):Quiet P hp o arg (.ptr k (f+uc.offset)):=
 Xl F C A p q (YaJ g)
end
def CV:BinOp->Int->Int->Prop
 |.eql,a,b=>a=b
 |.neq,a,b=>a≠b
 |.lss,a,b=>a<b
 |.leq,a,b=>a<=b
 |.gtr,a,b=>b<a
 |.geq,a,b=>b<=a
 |_,_,_=>False
def UQ:BinOp->Bool
 |.eql |.neq |.lss |.leq |.gtr |.geq=>true
 |_=>false
section
variable {P:Program} {hp:List Ow} {o:Oper} {arg:Operand->AV}
theorem A1y(F:o.op=.binOp vW t x y U)(E:UQ vW=true)(C:arg x=.d (ex (.int i a)))(M:arg y=.d (ex (.int i j)))(G:CV vW a j):Quiet P hp o arg (.d (eB true)):=by
 refine PO F C M ?_;cases vW<;>first | (simp only[CV]at G;simp[Zg,G];done) | (simp only[CV]at G;simp[Zg];omega) | exact absurd E ZbH
theorem A1z(F:o.op=.binOp vW t x y U)(E:UQ vW=true)(C:arg x=.d (ex (.int i a)))(M:arg y=.d (ex (.int i j)))(G:¬CV vW a j):Quiet P hp o arg (.d (eB false)):=by
 refine PO F C M ?_;cases vW<;>first | (simp only[CV]at G;simp[Zg,G];done) | (simp only[CV]at G;simp[Zg];omega) | exact absurd E ZbH
theorem Xk{a:e}(F:o.op=.indexAddr t x y)(C:HO hp (arg x)=some (slD k f ((a::vu).map vK)))(M:arg y=.d (ex (.int i 0)))(L:Tab P t (.slice n) b T z)(q:Tab P n d m c u)(v:m=f):Quiet P hp o arg (.d (Fk k (vK a))):=
 Quiet.index (P:=P) (hp:=hp) F C M L q v ZbC ZbR
theorem ZI{q n b B H T l i:Nat}(F:o.op=.slice t x (some y) none none)(C:HO hp (arg x)=some (slD T l (vu.map vK)))(M:arg y=.d (eN i))(L:Tab P t (.slice q) n b z)(A:Tab P q d B H u)(v:B=l)(J:i<=vu.length):Quiet P hp o arg (.d (slD T l ((vu.drop i).map vK))):=by
 have h:=Quiet.slice (P:=P) (hp:=hp) (i:=(i:Nat)) (j:=((vu.map vK).length:Nat)) F C L A v (.inl ⟨y,rfl,M⟩) (.inr ⟨rfl,rfl⟩) ZbC ZiI ZbC
 have W:((vu.map vK).take (((vu.map vK).length:Nat):Int).toNat).drop ((i:Nat):Int).toNat=(vu.drop i).map vK:=by
  rw[show(((vu.map vK).length:Nat):Int).toNat=(vu.map vK).length from rfl,YaY,Yeb];rfl
 rwa [W]at h
theorem ZF{q n b B H T l i:Nat}(F:o.op=.slice t x none (some y) none)(C:HO hp (arg x)=some (slD T l (vu.map vK)))(M:arg y=.d (eN i))(L:Tab P t (.slice q) n b z)(A:Tab P q d B H u)(v:B=l)(J:i<=vu.length):Quiet P hp o arg (.d (slD T l ((vu.take i).map vK))):=by
 have h:=Quiet.slice (P:=P) (hp:=hp) (i:=0) (j:=(i:Nat)) F C L A v (.inr ⟨rfl,rfl⟩) (.inl ⟨y,rfl,M⟩) ZbC ZbC ZiI
 have W:((vu.map vK).take ((i:Nat):Int).toNat).drop ((0:Nat):Int).toNat=(vu.take i).map vK:=by
  show((vu.map vK).take i).drop 0=_;rw[YaW,Yec]
 exact W▸h
end
theorem IV(f:e->List D)(l:List e)(a:e):l.map f++[f a]=(l++[a]).map f:=by simp
theorem Abt{s0:An}{rest:List Oper}(B:va.dst=some b)(R:va.guard=none)(a:BN va.op=true)(d:Nat.blt b n=true)(h:∃r,Quiet P H va (AS.arg ⟨vb,H⟩) r/\AWl P s0 n ua vm rest ⟨(b,r)::vb,H⟩):AWl P s0 n ua vm (va::rest) ⟨vb,H⟩:=by
 obtain⟨r,q,A⟩:=h;exact AWl.q B R a d q A
theorem A9g{s0:An}{rest:List Oper}(R:va.guard=some (T,o))(M:(ua[T]?).bind (·.dst)=some m)(I:Ce vb m=some (.d (eB o)))(N:Nat.blt m n=true)(B:va.dst=some b)(a:BN va.op=true)(d:Nat.blt b n=true)(h:∃r,Quiet P H va (AS.arg ⟨vb,H⟩) r/\AWl P s0 n ua vm rest ⟨(b,r)::vb,H⟩):AWl P s0 n ua vm (va::rest) ⟨vb,H⟩:=by
 obtain⟨r,q,A⟩:=h;exact Abr R M I N B a d q A
def RR:List HR->HR->Option (List HR)
 |[],x=>some [x]
 |o::l,x=>match RR l x with
  |some r=>some (o::r)
  |none=>none
theorem XU:∀{l:List HR} {x:HR} {r:List HR},RR l x=some r->r=l++[x]
 |[],x,r,h=>by cases h;rfl
 |o::l,x,r,h=>by
  unfold RR at h;split at h
  .rename_i q b
   cases h;rw[XU b];rfl
  .cases h
def HS(P:Program)(q:AS)(K:List HR->Prop):List HR->List Oper->List (List (Nat×Nat))->Prop
 |R,_,[]=>K R
 |R,o::L,e::z=>∃r,HStep P q R e o r/\∃A,RR R r=some A/\HS P q K A L z
 |_,[],_::_=>False
def Oc:Nat->List Oper->List (List (Nat×Nat))->Bool
 |_,_,[]=>true
 |i,o::L,e::z=>e.all (λp=>Nat.blt p.2 i)&&(match o.guard with |some (j,_)=>Nat.blt j i |none=>true)&&Oc (i+1) L z
 |_,[],_::_=>false
theorem Vg{R A:List HR}(h:∀p∈vw,p.2<R.length):DN ve (R++A) vw=DN ve R vw:=by
 funext x
 cases x with
 |tmp t=>
  show(match vw.find? (λp=>p.1==t)with
   |some p=>match (R++A)[p.2]? with
    |some h=>h.val
    |none=>.d Cs
   |none=>_)=(match vw.find? (λp=>p.1==t)with
   |some p=>match R[p.2]? with
    |some h=>h.val
    |none=>.d Cs
   |none=>_)
  cases q:vw.find? (λp=>p.1==t)with
  |none=>rfl
  |some p=>
   simp only;rw[Yaw (h p (Ybp q))]
 |const v=>rfl
 |global g=>rfl
 |func f=>rfl
theorem HStep.more{acc C:List HR}{r:HR}(h:HStep P ve acc vw va r)(B:∀p∈vw,p.2<acc.length)(R:∀j b,va.guard=some (j,b)->j<acc.length):HStep P ve (acc++C) vw va r:=by
 cases r with
 |av r=>
  rcases h with⟨q,A⟩ | ⟨j,b,c,q,A,h3⟩
  .exact .inl ⟨q,by rw[Vg B];exact A⟩
  .refine .inr ⟨j, b, c, q, by rw [Yaw (R j b q)]; exact A, ?_⟩
   rw[Vg B];exact h3
 |new T f=>exact h
theorem ZP{P:Program}{σ:AS}{K:List HR->Prop}:∀{es:List (List (Nat×Nat))} {L:List Oper} {acc:List HR},Oc acc.length L es=true->HS P σ K acc L es->∃more,more.length=es.length/\HSteps P σ (acc++more) L es more/\K (acc++more)
 | [],L,acc,_,h=>by
  refine ⟨[],rfl,HSteps.nil,?_⟩
  rw [YbD]
  cases L<;>exact h
 | e::es,[],acc,he,h=>by cases he
 | e::es,o::L,acc,he,h=>by
  obtain ⟨r,h1,acc',h2,h3⟩:=h
  have e1:=XU h2
  subst e1
  simp only [Oc,Yam] at he
  obtain ⟨⟨he1,he2⟩,he3⟩:=he
  obtain ⟨more,h4,h5,h6⟩:=ZP (acc:=acc++[r]) (by simpa using he3) h3
  rw [Yaf,List.singleton_append] at h5 h6
  refine ⟨r::more,by simp [h4],⟨h1.more (λp hp=>?_) λj b hj=>?_,h5⟩,h6⟩
  .have:=Yah.1 he1 p hp
   simpa [Ybq] using this
  .rw [hj] at he2
   simpa [Ybq] using he2
theorem Ry{P:Program}{s0:An}{n:Nat}{Q Q0:Exit->AS->Prop}{fr:List (Nat×AV)}{hp:List Ow}{id:Nat}{L0:Array Oper}{L:List Oper}(hm:DrawOk P s0 n id L0 L Q0 Q)(es:List (List (Nat×Nat)))(bs:List (List Nat))(hlen:(es.length==bs.length&&Nat.ble es.length L.length)=true)(hok:Ee L (Gq 0 es bs)=true)(hd:Ia L es.length n=true)(hlt:Oc 0 L es=true)
  (h:HS P ⟨fr,hp⟩ (λrs=>∃τ,WU fr hp es.length L rs=some τ/\AWl P s0 n L.toArray Q (L.drop es.length) τ) [] L es):AWp P s0 n (.region id L0 true) Q0 ⟨fr,hp⟩:=by
 obtain ⟨rs,h1,h2,τ,h3,h4⟩:=ZP (acc:=[]) hlt h
 simp only [Ycy] at h2 h3
 simp only [Yam,YcI] at hlen
 exact AWp.dr hm es bs rs (by simp only [Yam,YcI];exact ⟨⟨hlen.1,h1.symm⟩,by rw [h1];exact hlen.2⟩) hok hd h2 (by rw [h1];exact h3) h4
section
variable {P:Program} {hp:List Ow} {arg:Operand->AV} {dd:Option Tmp} {ty:TypeId} {ps:String} {af:Array Edge} {gd:Option (Nat×Bool)}
theorem A1E(C:HO hp (arg x)=some (slD m c vk))(L:Tab P t (.slice n) b T z):Quiet P hp ⟨dd,.call { callee:=.builtin .len,args:=#[x],argTypes:=#[t] },ty,ps,af,gd⟩ arg (.d (eI vk.length)):=Quiet.len (o:=⟨dd,.call { callee:=.builtin .len,args:=#[x],argTypes:=#[t] },ty,ps,af,gd⟩) rfl C L
theorem Bh{U:Type}{e n b T q:Nat}{f:U->List D}{l:List U}(C:HO hp (arg x)=some (slD T q (l.map f)))(L:Tab P t (.slice e) n b z):Quiet P hp ⟨dd,.call { callee:=.builtin .len,args:=#[x],argTypes:=#[t] },ty,ps,af,gd⟩ arg (.d (eN l.length)):=A1s (o:=⟨dd,.call { callee:=.builtin .len,args:=#[x],argTypes:=#[t] },ty,ps,af,gd⟩) rfl C L
theorem II{q n b h H T B:Nat}{f:e->List D}{a:e}{l:List e}(C:HO hp (arg x)=some (slD T B ((a::l).map f)))(M:arg y=.d (ex (.int i 0)))(L:Tab P t (.slice q) n b z)(A:Tab P q d h H u)(v:h=B):Quiet P hp ⟨dd,.indexAddr t x y,ty,ps,af,gd⟩ arg (.d (Fk T (f a))):=Xk (o:=⟨dd,.indexAddr t x y,ty,ps,af,gd⟩) rfl C M L A v
theorem Kp{U:Type}{e n b h H T sz i:Nat}{f:U->List D}{l:List U}(C:HO hp (arg x)=some (slD T sz (l.map f)))(M:arg y=.d (eN i))(L:Tab P t (.slice e) n b z)(q:Tab P e d h H u)(v:h=sz)(J:i<=l.length):Quiet P hp ⟨dd,.slice t x (some y) none none,ty,ps,af,gd⟩ arg (.d (slD T sz ((l.drop i).map f))):=ZI (o:=⟨dd,.slice t x (some y) none none,ty,ps,af,gd⟩) rfl C M L q v J
theorem Ic{U:Type}{e n b h H T sz i:Nat}{f:U->List D}{l:List U}(C:HO hp (arg x)=some (slD T sz (l.map f)))(M:arg y=.d (eN i))(L:Tab P t (.slice e) n b z)(q:Tab P e d h H u)(v:h=sz)(J:i<=l.length):Quiet P hp ⟨dd,.slice t x none (some y) none,ty,ps,af,gd⟩ arg (.d (slD T sz ((l.take i).map f))):=ZF (o:=⟨dd,.slice t x none (some y) none,ty,ps,af,gd⟩) rfl C M L q v J
theorem CE{U:Type}[Inhabited U]{e n b h H T A k:Nat}{f:U->List D}{l:List U}(C:HO hp (arg x)=some (slD T A (l.map f)))(M:arg y=.d (ex (.int i (k:Nat))))(L:Tab P t (.slice e) n b z)(q:Tab P e d h H u)(v:h=A)(B:k<l.length):Quiet P hp ⟨dd,.indexAddr t x y,ty,ps,af,gd⟩ arg (.d (Fk T (f (l.getD k default)))):=Xj (o:=⟨dd,.indexAddr t x y,ty,ps,af,gd⟩) rfl C M L q v B
theorem PW{T U:TypeId}(C:arg x=.d (eI a))(M:arg y=.d (eI j))(q:-9223372036854775808<=a+j)(A:a+j<=9223372036854775807):Quiet P hp ⟨dd,.binOp .add T x y U,ty,ps,af,gd⟩ arg (.d (eI (a+j))):=Quiet.add (o:=⟨dd,.binOp .add T x y U,ty,ps,af,gd⟩) rfl C M q A
theorem PP(C:arg x=.d (eI a))(M:arg y=.d (eI j))(q:-9223372036854775808<=a-j)(A:a-j<=9223372036854775807):Quiet P hp ⟨dd,.binOp .sub t x y U,ty,ps,af,gd⟩ arg (.d (eI (a-j))):=Quiet.sub (o:=⟨dd,.binOp .sub t x y U,ty,ps,af,gd⟩) rfl C M q A
theorem Xr{T U:TypeId}(C:arg x=.d (eI a))(M:arg y=.d (eI j))(q:-9223372036854775808<=a*j)(A:a*j<=9223372036854775807):Quiet P hp ⟨dd,.binOp .mul T x y U,ty,ps,af,gd⟩ arg (.d (eI (a*j))):=Quiet.mul (o:=⟨dd,.binOp .mul T x y U,ty,ps,af,gd⟩) rfl C M q A
theorem HU(C:arg x=.d (eN n))(M:arg y=.d (eI 1))(q:(n:Int)<9223372036854775807):Quiet P hp ⟨dd,.binOp .add t x y U,ty,ps,af,gd⟩ arg (.d (eN (n+1))):=A1q (o:=⟨dd,.binOp .add t x y U,ty,ps,af,gd⟩) rfl C M q
theorem Xm(C:arg x=.d (eI a))(M:arg y=.d (eI j))(c:0<=a)(q:a<=9223372036854775807)(E:0<j):Quiet P hp ⟨dd,.binOp .quo t x y U,ty,ps,af,gd⟩ arg (.d (eI (a/j))):=Quiet.quo (o:=⟨dd,.binOp .quo t x y U,ty,ps,af,gd⟩) rfl C M c q E
theorem Tl(C:arg x=.d (ex (.int i a)))(M:arg y=.d (ex (.int i j)))(c:0<=a)(E:0<j):Quiet P hp ⟨dd,.binOp .rem t x y U,ty,ps,af,gd⟩ arg (.d (ex (.int i (a%j)))):=Quiet.rem (o:=⟨dd,.binOp .rem t x y U,ty,ps,af,gd⟩) rfl C M c E
theorem Rp(C:arg x=.d (ex (.int i a)))(M:arg y=.d (ex (.int i j)))(E:j≠0):Quiet P hp ⟨dd,.binOp .rem t x y U,ty,ps,af,gd⟩ arg (.d (ex (.int i (a.tmod j)))):=A1r (o:=⟨dd,.binOp .rem t x y U,ty,ps,af,gd⟩) rfl C M E
theorem Xw(C:arg x=.d (ex (.int i a)))(M:arg y=.d (ex (.int i j)))(G:Zg vW a j=some o):Quiet P hp ⟨dd,.binOp vW t x y U,ty,ps,af,gd⟩ arg (.d (eB o)):=PO (o:=⟨dd,.binOp vW t x y U,ty,ps,af,gd⟩) rfl C M G
theorem Hk(E:UQ vW=true)(C:arg x=.d (ex (.int i a)))(M:arg y=.d (ex (.int i j)))(G:CV vW a j):Quiet P hp ⟨dd,.binOp vW t x y U,ty,ps,af,gd⟩ arg (.d (eB true)):=A1y (o:=⟨dd,.binOp vW t x y U,ty,ps,af,gd⟩) rfl E C M G
theorem IA(E:UQ vW=true)(C:arg x=.d (ex (.int i a)))(M:arg y=.d (ex (.int i j)))(G:¬CV vW a j):Quiet P hp ⟨dd,.binOp vW t x y U,ty,ps,af,gd⟩ arg (.d (eB false)):=A1z (o:=⟨dd,.binOp vW t x y U,ty,ps,af,gd⟩) rfl E C M G
theorem Xp(C:arg x=.d (eB o)):Quiet P hp ⟨dd,.unOp .not t x,ty,ps,af,gd⟩ arg (.d (eB (!o))):=Quiet.not (o:=⟨dd,.unOp .not t x,ty,ps,af,gd⟩) rfl C
theorem Id(C:arg y=h)(G:arg x=.d (eB true)):Quiet P hp ⟨dd,.pick x y vT,ty,ps,af,gd⟩ arg h:=QF (o:=⟨dd,.pick x y vT,ty,ps,af,gd⟩) rfl C G
theorem Kn(M:arg vT=h)(G:arg x=.d (eB false)):Quiet P hp ⟨dd,.pick x y vT,ty,ps,af,gd⟩ arg h:=QG (o:=⟨dd,.pick x y vT,ty,ps,af,gd⟩) rfl M G
theorem Ru{k q:IntKind}(C:arg x=.d (ex (.int k a)))(p:Tab P t d n b z)(e:Tab P U (.int q) T m u):Quiet P hp ⟨dd,.convert t U x,ty,ps,af,gd⟩ arg (.d (ex (.int q (q.wrap a)))):=Tj (o:=⟨dd,.convert t U x,ty,ps,af,gd⟩) rfl C p e
theorem Rt(C:arg x=.d (Fk k v))(A:Tab P t (.struct vV) b T z)(p:vV[n]? = some uc)(q:Tab P uc.type d m c u)(g:Nat.beq m 0=false)(Y:Qu uc.offset v=some vn):Quiet P hp ⟨dd,.fieldAddr t x n,ty,ps,af,gd⟩ arg (.d (Fk k vn)):=A1x (o:=⟨dd,.fieldAddr t x n,ty,ps,af,gd⟩) rfl C A p q g Y
theorem Iz(C:arg x=.ptr k f)(A:Tab P t (.struct vV) b T z)(p:vV[n]? = some uc)(q:Tab P uc.type d m c u)(g:Nat.beq m 0=false):Quiet P hp ⟨dd,.fieldAddr t x n,ty,ps,af,gd⟩ arg (.ptr k (f+uc.offset)):=A1w (o:=⟨dd,.fieldAddr t x n,ty,ps,af,gd⟩) rfl C A p q g
theorem Mc{ds r:List D}(C:arg x=.ptr m c)(A:hp[m]? = some (.var T (ds.map .d)))(L:Tab P t d n b z)(q:ES d=true)(Y:A5d c n ds=some r):Quiet P hp ⟨dd,.load t x,ty,ps,af,gd⟩ arg (.d (AP r)):=A4m (o:=⟨dd,.load t x,ty,ps,af,gd⟩) rfl C A L q Y
theorem BU{n b T id off:Nat}{ds:List D}(C:arg x=.ptr id off)(A:hp[id]? = some (.var T (ds.map .d)))(L:Tab P t d n b z)(q:ES d=false)(Y:atO off ds=some r):Quiet P hp ⟨dd,.load t x,ty,ps,af,gd⟩ arg (.d r):=A1v (o:=⟨dd,.load t x,ty,ps,af,gd⟩) rfl C A L q Y
theorem Ko{n b T id off:Nat}{r:AV}(C:arg x=.ptr id off)(A:hp[id]? = some (.var T R))(L:Tab P t d n b z)(q:ES d=false)(G:R[off]? = some r):Quiet P hp ⟨dd,.load t x,ty,ps,af,gd⟩ arg r:=Oz (o:=⟨dd,.load t x,ty,ps,af,gd⟩) rfl C A L q G
theorem MI(C:arg x=.d (Fk T v))(L:Tab P t d n b z)(q:ES d=true)(g:v.length=n):Quiet P hp ⟨dd,.load t x,ty,ps,af,gd⟩ arg (.d (AP v)):=Xi (o:=⟨dd,.load t x,ty,ps,af,gd⟩) rfl C L q g
theorem Tp(C:arg x=.d (Fk T v))(L:Tab P t d n b z)(q:ES d=true)(Y:Qf n v=some vn):Quiet P hp ⟨dd,.load t x,ty,ps,af,gd⟩ arg (.d (AP vn)):=A4l (o:=⟨dd,.load t x,ty,ps,af,gd⟩) rfl C L q Y
theorem Gv(C:arg x=.d (Fk T v))(L:Tab P t d n b z)(q:ES d=false)(Y:atO 0 v=some r):Quiet P hp ⟨dd,.load t x,ty,ps,af,gd⟩ arg (.d r):=A1u (o:=⟨dd,.load t x,ty,ps,af,gd⟩) rfl C L q Y
theorem Abb{ds:List D}{k:IntKind}{i:Int}(C:arg x=.d (AP ds))(M:arg y=.d (ex (.int k i)))(L:Tab P t (.array c n) b T z)(q:Tab P n d 1 m u)(B:ES d=false)(A:0<=i)(J:i<c)(g:i.toNat<ds.length):Quiet P hp ⟨dd,.index t x y,ty,ps,af,gd⟩ arg (.d (Dd ds i.toNat)):=Vn (o:=⟨dd,.index t x y,ty,ps,af,gd⟩) rfl C M L q B A J g
theorem Xv(C:arg x=.d (FA v))(Y:atO n v=some r):Quiet P hp ⟨dd,.extract x n,ty,ps,af,gd⟩ arg (.d r):=Quiet.ext (o:=⟨dd,.extract x n,ty,ps,af,gd⟩) rfl C Y
theorem A7b(L:Tab P t (.struct vV) n b z)(N:FieldsT P vV.toList vw)(q:Ih z.cells.toList=true)(Y:PartsA hp arg uf uu)(p:Ht (λi=>vw[i]?) (WI z.cells.toList) uu=some v):Quiet P hp ⟨dd,.build t uf.toArray,ty,ps,af,gd⟩ arg (.d (AP v)):=Quiet.build (o:=⟨dd,.build t uf.toArray,ty,ps,af,gd⟩) rfl L N q Y p
theorem ZJ(L:Tab P t (.array n U) b T z)(A:Tab P U d m c u)(q:Ih z.cells.toList=true)(Y:PartsA hp arg uf uu)(p:Ht (λi=>some (i*m,m)) (WI z.cells.toList) uu=some v):Quiet P hp ⟨dd,.build t uf.toArray,ty,ps,af,gd⟩ arg (.d (AP v)):=Tk (o:=⟨dd,.build t uf.toArray,ty,ps,af,gd⟩) rfl L A q Y p
theorem Nd{len n b h H:Nat}{parts:List (Nat×Operand)}{r:List (Nat×List D)}(L:Tab P t (.slice U) n b z)(A:Tab P U d h H u)(o:0<len)(g:0<h)(B:u.cells.size=h)(y:len*h<=16777216)(q:Ih u.cells.toList=true)(Y:PartsA hp arg parts r)(p:Ht (λi=>some (i*h,h)) (List.replicate (len*h) Cs) r=some v):Quiet P hp ⟨dd,.buildSlice t len parts.toArray,ty,ps,af,gd⟩ arg (.d (slD U h (FM h len v))):=Quiet.buildSlice (o:=⟨dd,.buildSlice t len parts.toArray,ty,ps,af,gd⟩) rfl L A o g B y q Y p
theorem A75{lo hi:Option Operand}{i j:Int}(C:HO hp (arg x)=some (slD k f vk))(L:Tab P t (.slice n) b T z)(q:Tab P n d m c u)(v:m=f)(B:(∃y,lo=some y/\arg y=.d (eI i))\/(lo=none/\i=0))(E:(∃y,hi=some y/\arg y=.d (eI j))\/(hi=none/\j=vk.length))(A:0<=i)(S:i<=j)(X:j<=vk.length):Quiet P hp ⟨dd,.slice t x lo hi none,ty,ps,af,gd⟩ arg (.d (slD k f ((vk.take j.toNat).drop i.toNat))):=Quiet.slice (o:=⟨dd,.slice t x lo hi none,ty,ps,af,gd⟩) rfl C L q v B E A S X
theorem A1D(C:arg x=.d (ex (.int i a)))(M:arg y=.d (ex (.int i j))):Quiet P hp ⟨dd,.call { callee:=.builtin .max,args:=#[x,y],argTypes:=vt },ty,ps,af,gd⟩ arg (.d (ex (.int i (Max.max a j)))):=Quiet.max (o:=⟨dd,.call { callee:=.builtin .max,args:=#[x,y],argTypes:=vt },ty,ps,af,gd⟩) rfl C M
theorem Xs(C:arg x=.d (ex (.int i a)))(M:arg y=.d (ex (.int i j))):Quiet P hp ⟨dd,.call { callee:=.builtin .min,args:=#[x,y],argTypes:=vt },ty,ps,af,gd⟩ arg (.d (ex (.int i (Min.min a j)))):=Quiet.min (o:=⟨dd,.call { callee:=.builtin .min,args:=#[x,y],argTypes:=vt },ty,ps,af,gd⟩) rfl C M
theorem A1C(C:arg x=.d (ex (.int .u8 (n:Nat))))(M:arg y=.d (ex (.int .u8 (b:Nat))))(q:n<256)(E:b<256):Quiet P hp ⟨dd,.binOp .or t x y U,ty,ps,af,gd⟩ arg (.d (ex (.int .u8 ((n ||| b:Nat):Int)))):=A4k (o:=⟨dd,.binOp .or t x y U,ty,ps,af,gd⟩) rfl C M q E
theorem BO{f:Operand}(p:arg f=.d (ex (.func (.func vd) #[] #[])))(G:Abs P vd v r)(t:ArgsLe hp arg vP v):Quiet P hp ⟨dd,.call { callee:=.value f,args:=vP.toArray,argTypes:=vt },ty,ps,af,gd⟩ arg (.d r):=Quiet.call (o:=⟨dd,.call { callee:=.value f,args:=vP.toArray,argTypes:=vt },ty,ps,af,gd⟩) rfl p G t
theorem AG{r:AV}(C:arg x=r):Quiet P hp ⟨dd,.move x,ty,ps,af,gd⟩ arg r:=Quiet.move (.inl rfl) C
theorem Bm{r:AV}(C:arg x=r):Quiet P hp ⟨dd,.assign x,ty,ps,af,gd⟩ arg r:=Quiet.move (.inr rfl) C
end
section
variable {P:Program} {s0:An} {n:Nat} {ops:Array Oper} {Q:Exit->AS->Prop} {rest:List Oper} {fr:List (Nat×AV)} {hp:List Ow} {ty:TypeId} {ps:String} {af:Array Edge}
theorem Abp{m b k A:Nat}(L:Tab P t d m b z)(e:Nat.beq t 335=false)(q:Ih z.cells.toList=true)(C:Nat.blt A n=true)(G:exO z.cells.toList=some v)(B:Ik hp=some k)(a:Gp hp (.var t (v.map .d))=some H)(h:AWl P s0 n ops Q rest ⟨(A,.ptr k 0)::fr,H⟩):AWl P s0 n ops Q (⟨some A,.alloc t,ty,ps,af,none⟩::rest) ⟨fr,hp⟩:=AWl.al (o:=⟨some A,.alloc t,ty,ps,af,none⟩) rfl rfl rfl L e q C G B a h
theorem Abo{k q:Nat}(C:AS.arg ⟨fr,hp⟩ x=.d (AP v))(e:Nat.beq t 335=false)(d:Nat.blt q n=true)(B:Ik hp=some k)(a:Gp hp (.var t (v.map .d))=some H)(h:AWl P s0 n ops Q rest ⟨(q,.ptr k 0)::fr,H⟩):AWl P s0 n ops Q (⟨some q,.box t x,ty,ps,af,none⟩::rest) ⟨fr,hp⟩:=Abu (o:=⟨some q,.box t x,ty,ps,af,none⟩) rfl rfl rfl C e d B a h
theorem XG{k A:Nat}(C:AS.arg ⟨fr,hp⟩ x=.d (ex z))(q:z.oneCell'=true)(e:Nat.beq t 335=false)(d:Nat.blt A n=true)(B:Ik hp=some k)(a:Gp hp (.var t ([ex z].map .d))=some H)(h:AWl P s0 n ops Q rest ⟨(A,.ptr k 0)::fr,H⟩):AWl P s0 n ops Q (⟨some A,.box t x,ty,ps,af,none⟩::rest) ⟨fr,hp⟩:=A9i (o:=⟨some A,.box t x,ty,ps,af,none⟩) rfl rfl rfl C q e d B a h
theorem A9c{b id m:Nat}(C:AS.arg ⟨fr,hp⟩ x=.ptr id 0)(M:AS.arg ⟨fr,hp⟩ y=.d (AP v))(A:hp[id]? = some (.var U R))(L:Tab P t d m b z)(q:v.length=m)(B:R.length=m)(a:Gk hp id (.var U (v.map .d))=some H)(h:AWl P s0 n ops Q rest ⟨fr,H⟩):AWl P s0 n ops Q (⟨none,.store t x y,ty,ps,af,none⟩::rest) ⟨fr,hp⟩:=A9e (o:=⟨none,.store t x y,ty,ps,af,none⟩) rfl rfl rfl C M A L q B a h
theorem XF{b id m off:Nat}(C:AS.arg ⟨fr,hp⟩ x=.ptr id off)(M:AS.arg ⟨fr,hp⟩ y=.d (AP vn))(A:hp[id]? = some (.var U (v.map .d)))(L:Tab P t d m b z)(q:vn.length=m)(G:VF v off vn=some xe)(a:Gk hp id (.var U (xe.map .d))=some H)(h:AWl P s0 n ops Q rest ⟨fr,H⟩):AWl P s0 n ops Q (⟨none,.store t x y,ty,ps,af,none⟩::rest) ⟨fr,hp⟩:=A9f (o:=⟨none,.store t x y,ty,ps,af,none⟩) rfl rfl rfl C M A L q G a h
theorem Dg{b id off:Nat}(C:AS.arg ⟨fr,hp⟩ x=.ptr id off)(M:AS.arg ⟨fr,hp⟩ y=.d r)(A:hp[id]? = some (.var U (v.map .d)))(L:Tab P t d 1 b z)(q:One hp (.d r))(G:VF v off [r]=some vn)(a:Gk hp id (.var U (vn.map .d))=some H)(h:AWl P s0 n ops Q rest ⟨fr,H⟩):AWl P s0 n ops Q (⟨none,.store t x y,ty,ps,af,none⟩::rest) ⟨fr,hp⟩:=A7z (o:=⟨none,.store t x y,ty,ps,af,none⟩) rfl rfl rfl C M A L q G a h
theorem EC{t T J l bytes id m b e:Nat}{B r2:List (List D)}(C:AS.arg ⟨fr,hp⟩ x=.own id)(M:HO hp (AS.arg ⟨fr,hp⟩ y)=some (slD J l r2))(E:hp[id]? = some (.row T l B))(L:Tab P t (.slice T) m b u)(A:Tab P T d l bytes z)(I:z.cells.size=l)(q:Nat.blt e n=true)(F:(B.length+r2.length)*bytes<=140737488355328)(G:B.length+r2.length<=4611686018427387904)(p:IZ id (slD T l B) fr=some vb)(N:PlainHp id hp)(a:Gk hp id (.row T l (B++r2))=some H)(h:AWl P s0 n ops Q rest ⟨(e,.own id)::vb,H⟩):AWl P s0 n ops Q (⟨some e,.call { callee:=.builtin .append,args:=#[x,y],argTypes:=#[t,t] },ty,ps,af,none⟩::rest) ⟨fr,hp⟩:=AWl.app (o:=⟨some e,.call { callee:=.builtin .append,args:=#[x,y],argTypes:=#[t,t] },ty,ps,af,none⟩) rfl rfl rfl C M E L A I q F G p N a h
theorem TD{t T m b sz bytes k e:Nat}(L:Tab P t (.slice T) m b u)(A:Tab P T d sz bytes z)(J:Nat.beq T 335=false)(c:Nat.blt 0 sz=true)(q:Nat.blt e n=true)(B:Ik hp=some k)(a:Gp hp (.row T sz [])=some H)(h:AWl P s0 n ops Q rest ⟨(e,.own k)::fr,H⟩):AWl P s0 n ops Q (⟨some e,.buildSlice t 0 #[],ty,ps,af,none⟩::rest) ⟨fr,hp⟩:=Abv (o:=⟨some e,.buildSlice t 0 #[],ty,ps,af,none⟩) rfl rfl rfl L A J c q B a h
theorem A9d{t T m b l bytes k e:Nat}(C:AS.arg ⟨fr,hp⟩ x=.d (eI 0))(M:AS.arg ⟨fr,hp⟩ y=.d (eI a))(L:Tab P t (.slice T) m b u)(E:Tab P T d l bytes z)(I:0<=a)(G:a<=1000000000)(F:Nat.ble bytes 65536=true)(J:Nat.beq T 335=false)(c:Nat.blt 0 l=true)(A:Nat.blt e n=true)(B:Ik hp=some k)(q:Gp hp (.row T l [])=some H)(h:AWl P s0 n ops Q rest ⟨(e,.own k)::fr,H⟩):AWl P s0 n ops Q (⟨some e,.makeSlice t x y,ty,ps,af,none⟩::rest) ⟨fr,hp⟩:=A9h (o:=⟨some e,.makeSlice t x y,ty,ps,af,none⟩) rfl rfl rfl C M L E I G F J c A B q h
theorem De{d:Nat}(a:BN uk=true)(q:Nat.blt d n=true)(h:∃r,Quiet P hp ⟨some d,uk,ty,ps,af,none⟩ (AS.arg ⟨fr,hp⟩) r/\AWl P s0 n ops Q rest ⟨(d,r)::fr,hp⟩):AWl P s0 n ops Q (⟨some d,uk,ty,ps,af,none⟩::rest) ⟨fr,hp⟩:=Abt rfl rfl a q h
theorem Qc{d:Nat}(M:(ops[b]?).bind (·.dst)=some T)(I:Ce fr T=some (.d (eB o)))(N:Nat.blt T n=true)(a:BN uk=true)(q:Nat.blt d n=true)(h:∃r,Quiet P hp ⟨some d,uk,ty,ps,af,some (b,o)⟩ (AS.arg ⟨fr,hp⟩) r/\AWl P s0 n ops Q rest ⟨(d,r)::fr,hp⟩):AWl P s0 n ops Q (⟨some d,uk,ty,ps,af,some (b,o)⟩::rest) ⟨fr,hp⟩:=A9g rfl M I N rfl a q h
theorem TC{d:Nat}(M:(ops[b]?).bind (·.dst)=some T)(I:Ce fr T=some (.d (ex z)))(A:isB z o=false)(N:Nat.blt T n=true)(q:Nat.blt d n=true)(h:AWl P s0 n ops Q rest ⟨(d,.d (ex undef))::fr,hp⟩):AWl P s0 n ops Q (⟨some d,uk,ty,ps,af,some (b,o)⟩::rest) ⟨fr,hp⟩:=Abq rfl M I A N rfl q h
end
def plO:List Field->Option (List (Nat×Nat))
 |[]=>some []
 |f::l=>match Us A2b f.type with
  |some p=>match plO l with
   |some r=>some ((f.offset,p.n)::r)
   |none=>none
  |none=>none
theorem A5J:∀{l:List Field} {r:List (Nat×Nat)},plO l=some r->FieldsT prog l r
 |[],r,h=>by cases h;exact FieldsT.nil
 |f::l,r,h=>by
  unfold plO at h
  cases L:Us A2b f.type with
  |none=>rw[L]at h;cases h
  |some p=>
   rw[L]at h;simp only at h
   cases Y:plO l with
   |none=>rw[Y]at h;cases h
   |some B=>
    rw[Y]at h;cases h;obtain⟨q,A⟩:=RF A2d L;rw[q]at A;exact FieldsT.cons A (A5J Y)
def PartOk(F:List Ow)(G:AV)(z:List D):Prop:=G=.d (AP z)\/∃y,HO F G=some y/\One F G/\z=[y]
theorem Ar(q:h=.d (AP v)):PartOk H h v:=.inl q
theorem PartOk.one(q:HO H h=some r)(A:One H h):PartOk H h [r]:=.inr ⟨r,q,A,rfl⟩
def A2h:List (Nat×List D)->Nat×List D->Option (List (Nat×List D))
 |[],x=>some [x]
 |o::l,x=>match A2h l x with
  |some r=>some (o::r)
  |none=>none
theorem XT:∀{l:List (Nat×List D)} {x:Nat×List D} {r:List (Nat×List D)},A2h l x=some r->r=l++[x]
 |[],x,r,h=>by cases h;rfl
 |o::l,x,r,h=>by
  unfold A2h at h;split at h
  .rename_i q b
   cases h;rw[XT b];rfl
  .cases h
def PC(F:List Ow)(arg:Operand->AV)(K:List (Nat×List D)->Prop):List (Nat×List D)->List (Nat×Operand)->Prop
 |R,[]=>K R
 |R,(i,x)::l=>∃z,PartOk F (arg x) z/\∃q,A2h R (i,z)=some q/\PC F arg K q l
theorem Mf{F:List Ow}{arg:Operand->AV}{K:List (Nat×List D)->Prop}:∀{l:List (Nat×Operand)} {R:List (Nat×List D)},PC F arg K R l->∃r,PartsA F arg l r/\K (R++r)
 |[],R,h=>⟨[],PartsA.nil,by rw[YbD];exact h⟩
 |(i,x)::l,R,⟨z,q,C,A,B⟩=>by
  have e:=XT A;subst e;obtain⟨r,Q,k⟩:=Mf B;rw[Yaf,List.singleton_append]at k;exact⟨(i,z)::r,⟨rfl,q,Q⟩,k⟩
def SK(place:Nat->Option (Nat×Nat)):List D->List (Nat×List D)->Option (List D)
 |S,[]=>some S
 |S,(i,z)::r=>match place i with
  |some (off,size)=>bif Nat.beq z.length size then match VF S off z with
   |some p=>SK place p r
   |none=>none else none
  |none=>none
theorem LK{place:Nat->Option (Nat×Nat)}:∀{r:List (Nat×List D)} {S x:List D},SK place S r=some x->Ht place S r=some x
 |[],S,x,h=>h
 |(i,z)::r,S,x,h=>by
  unfold SK at h;unfold Ht
  cases F:place i with
  |none=>rw[F]at h;cases h
  |some q=>
   obtain⟨off,size⟩:=q;rw[F]at h;simp only at h ⊢
   cases E:Nat.beq z.length size with
   |false=>exact Zja
   |true=>
    rw[E]at h;simp only[cond_true]at h
    cases a:VF S off z with
    |none=>rw[a]at h;cases h
    |some p=>
     rw[a]at h;obtain⟨W,o⟩:=Rb a;have H:=Yan E;have O:Nat.ble (off+size) S.length=true:=Ydg ZbC;rw[O,<-W];exact LK h
section
variable {P:Program} {hp:List Ow} {arg:Operand->AV} {dd:Option Tmp} {ty:TypeId} {ps:String} {af:Array Edge} {gd:Option (Nat×Bool)}
theorem AI(L:Tab prog t (.struct vV) n b z)(N:plO vV.toList=some vw)(q:Ih z.cells.toList=true)(B:exO z.cells.toList=some v)(h:PC hp arg (λr=>∃S,SK (λi=>vw[i]?) v r=some S/\xf (.d (AP S))) [] uf):∃r,Quiet prog hp ⟨dd,.build t uf.toArray,ty,ps,af,gd⟩ arg r/\xf r:=by
 obtain⟨r,A,S,K,Q⟩:=Mf h;rw[SP B]at K;exact⟨_,A7b L (A5J N) q A (LK K),Q⟩
theorem Mh{len n b C H:Nat}(L:Tab P t (.array len U) n b z)(B:Tab P U d C H u)(q:Ih z.cells.toList=true)(E:exO z.cells.toList=some v)(h:PC hp arg (λr=>∃S,SK (λi=>some (i*C,C)) v r=some S/\xf (.d (AP S))) [] uf):∃r,Quiet P hp ⟨dd,.build t uf.toArray,ty,ps,af,gd⟩ arg r/\xf r:=by
 obtain⟨r,A,S,K,Q⟩:=Mf h;rw[SP E]at K;exact⟨_,ZJ L B q A (LK K),Q⟩
theorem Dc{t e:TypeId}{len n b C H:Nat}{R:AV->Prop}(L:Tab P t (.slice e) n b z)(B:Tab P e d C H u)(o:Nat.blt 0 len=true)(g:Nat.blt 0 C=true)(E:u.cells.size=C)(y:Nat.ble (len*C) 16777216=true)(q:Ih u.cells.toList=true)(h:PC hp arg (λr=>∃S,SK (λi=>some (i*C,C)) (List.replicate (len*C) Cs) r=some S/\R (.d (slD e C (FM C len S)))) [] uf):∃r,Quiet P hp ⟨dd,.buildSlice t len uf.toArray,ty,ps,af,gd⟩ arg r/\R r:=by
 obtain⟨r,A,S,K,Q⟩:=Mf h;exact⟨_,Nd L B (by simpa[Ybq]using o) ZeL E (YbE y) q A (LK K),Q⟩
theorem Cb(C:arg x=.d (AP v))(L:Tab P t (.slice U) n b z)(A:Tab P U d T m u)(I:v.length=T)(g:Nat.blt 0 T=true)(B:u.cells.size=T)(y:Nat.ble T 16777216=true)(q:Ih u.cells.toList=true):Quiet P hp ⟨dd,.buildSlice t 1 #[(0,x)],ty,ps,af,gd⟩ arg (.d (slD U T [v])):=by
 have E:(Nat.beq v.length T&&Nat.ble (0*T+T) (List.replicate (1*T) Cs).length)=true:=by
  simp[I]
 have p:Ht (λi=>some (i*T,T)) (List.replicate (1*T) Cs) [(0,v)]=some v:=by
  simp only[Ht];rw[E];simp only[cond_true,TQ,YcS];rw[YcH,Ycf,Ycy,YaN (by simp[I]),YbD]
 have h:=Nd (P:=P) (hp:=hp) (dd:=dd) (ty:=ty) (ps:=ps) (af:=af) (gd:=gd) (len:=1) (parts:=[(0,x)]) (r:=[(0,v)]) L A ZbC ZeL B (by have:=YbE y;omega) q (A4q C PartsA.nil) p
 have W:FM T 1 v=[v]:=by
  simp only[FM];rw[<-I,YaY]
 rwa [W]at h
theorem Hq{R:HR->Prop}(B:va.guard=none)(h:∃r,Quiet P ve.hp va (DN ve ur vw) r/\R (.av r)):∃r,HStep P ve ur vw va r/\R r:=by
 obtain⟨r,q,A⟩:=h;exact⟨_,HStep.q B q,A⟩
end
section
variable {P:Program} {s0:An} {m:Nat} {ops:Array Oper} {Q:Exit->AS->Prop} {rest:List Oper} {σ:AS} {hp:List Ow} {arg:Operand->AV} {dd:Option Tmp} {ty:TypeId} {ps:String} {af:Array Edge} {gd:Option (Nat×Bool)} {R:AV->Prop} {H:HR->Prop} {acc:List HR} {e:List (Nat×Nat)}
theorem Gx(h:∃r,Quiet P hp ⟨dd,.move x,ty,ps,af,gd⟩ arg r/\R r):∃r,Quiet P hp ⟨dd,.move x,ty,ps,af,gd⟩ arg r/\R r:=h
theorem XA(h:∃r,HStep P σ acc e ⟨dd,.move x,ty,ps,af,gd⟩ r/\H r):∃r,HStep P σ acc e ⟨dd,.move x,ty,ps,af,gd⟩ r/\H r:=h
theorem GP(h:∃r,Quiet P hp ⟨dd,.assign x,ty,ps,af,gd⟩ arg r/\R r):∃r,Quiet P hp ⟨dd,.assign x,ty,ps,af,gd⟩ arg r/\R r:=h
theorem Vq(h:∃r,HStep P σ acc e ⟨dd,.assign x,ty,ps,af,gd⟩ r/\H r):∃r,HStep P σ acc e ⟨dd,.assign x,ty,ps,af,gd⟩ r/\H r:=h
theorem Rx(h:∃r,Quiet P hp ⟨dd,.load t x,ty,ps,af,gd⟩ arg r/\R r):∃r,Quiet P hp ⟨dd,.load t x,ty,ps,af,gd⟩ arg r/\R r:=h
theorem XB(h:∃r,HStep P σ acc e ⟨dd,.load t x,ty,ps,af,gd⟩ r/\H r):∃r,HStep P σ acc e ⟨dd,.load t x,ty,ps,af,gd⟩ r/\H r:=h
theorem IC(h:∃r,Quiet P hp ⟨dd,.fieldAddr n x b,ty,ps,af,gd⟩ arg r/\R r):∃r,Quiet P hp ⟨dd,.fieldAddr n x b,ty,ps,af,gd⟩ arg r/\R r:=h
theorem KU(h:∃r,HStep P σ acc e ⟨dd,.fieldAddr n x b,ty,ps,af,gd⟩ r/\H r):∃r,HStep P σ acc e ⟨dd,.fieldAddr n x b,ty,ps,af,gd⟩ r/\H r:=h
theorem OM(h:∃r,Quiet P hp ⟨dd,.indexAddr t x y,ty,ps,af,gd⟩ arg r/\R r):∃r,Quiet P hp ⟨dd,.indexAddr t x y,ty,ps,af,gd⟩ arg r/\R r:=h
theorem KT(h:∃r,HStep P σ acc e ⟨dd,.indexAddr t x y,ty,ps,af,gd⟩ r/\H r):∃r,HStep P σ acc e ⟨dd,.indexAddr t x y,ty,ps,af,gd⟩ r/\H r:=h
theorem A7j{L J o:Option Operand}(h:∃r,Quiet P hp ⟨dd,.slice t x L J o,ty,ps,af,gd⟩ arg r/\R r):∃r,Quiet P hp ⟨dd,.slice t x L J o,ty,ps,af,gd⟩ arg r/\R r:=h
theorem A1N(h:∃r,Quiet P hp ⟨dd,.call { callee:=.builtin .len,args:=uM,argTypes:=vt },ty,ps,af,gd⟩ arg r/\R r):∃r,Quiet P hp ⟨dd,.call { callee:=.builtin .len,args:=uM,argTypes:=vt },ty,ps,af,gd⟩ arg r/\R r:=h
theorem A7m(h:∃r,HStep P σ acc e ⟨dd,.call { callee:=.builtin .len,args:=uM,argTypes:=vt },ty,ps,af,gd⟩ r/\H r):∃r,HStep P σ acc e ⟨dd,.call { callee:=.builtin .len,args:=uM,argTypes:=vt },ty,ps,af,gd⟩ r/\H r:=h
theorem Abh(h:∃r,Quiet P hp ⟨dd,.call { callee:=.builtin .max,args:=uM,argTypes:=vt },ty,ps,af,gd⟩ arg r/\R r):∃r,Quiet P hp ⟨dd,.call { callee:=.builtin .max,args:=uM,argTypes:=vt },ty,ps,af,gd⟩ arg r/\R r:=h
theorem ZQ(h:∃r,Quiet P hp ⟨dd,.call { callee:=.value x,args:=uM,argTypes:=vt },ty,ps,af,gd⟩ arg r/\R r):∃r,Quiet P hp ⟨dd,.call { callee:=.value x,args:=uM,argTypes:=vt },ty,ps,af,gd⟩ arg r/\R r:=h
theorem Ts(h:∃r,HStep P σ acc e ⟨dd,.call { callee:=.value x,args:=uM,argTypes:=vt },ty,ps,af,gd⟩ r/\H r):∃r,HStep P σ acc e ⟨dd,.call { callee:=.value x,args:=uM,argTypes:=vt },ty,ps,af,gd⟩ r/\H r:=h
theorem A1O(h:∃r,Quiet P hp ⟨dd,.binOp .add t x y U,ty,ps,af,gd⟩ arg r/\R r):∃r,Quiet P hp ⟨dd,.binOp .add t x y U,ty,ps,af,gd⟩ arg r/\R r:=h
theorem A7q(h:∃r,HStep P σ acc e ⟨dd,.binOp .add t x y U,ty,ps,af,gd⟩ r/\H r):∃r,HStep P σ acc e ⟨dd,.binOp .add t x y U,ty,ps,af,gd⟩ r/\H r:=h
theorem A7i(h:∃r,Quiet P hp ⟨dd,.binOp .sub t x y U,ty,ps,af,gd⟩ arg r/\R r):∃r,Quiet P hp ⟨dd,.binOp .sub t x y U,ty,ps,af,gd⟩ arg r/\R r:=h
theorem A7l(h:∃r,HStep P σ acc e ⟨dd,.binOp .sub t x y U,ty,ps,af,gd⟩ r/\H r):∃r,HStep P σ acc e ⟨dd,.binOp .sub t x y U,ty,ps,af,gd⟩ r/\H r:=h
theorem Abg(h:∃r,Quiet P hp ⟨dd,.binOp .quo t x y U,ty,ps,af,gd⟩ arg r/\R r):∃r,Quiet P hp ⟨dd,.binOp .quo t x y U,ty,ps,af,gd⟩ arg r/\R r:=h
theorem A7k(h:∃r,Quiet P hp ⟨dd,.binOp .rem t x y U,ty,ps,af,gd⟩ arg r/\R r):∃r,Quiet P hp ⟨dd,.binOp .rem t x y U,ty,ps,af,gd⟩ arg r/\R r:=h
theorem A1Q(h:∃r,HStep P σ acc e ⟨dd,.binOp .rem t x y U,ty,ps,af,gd⟩ r/\H r):∃r,HStep P σ acc e ⟨dd,.binOp .rem t x y U,ty,ps,af,gd⟩ r/\H r:=h
theorem AcF(h:∃r,Quiet P hp ⟨dd,.binOp .or t x y U,ty,ps,af,gd⟩ arg r/\R r):∃r,Quiet P hp ⟨dd,.binOp .or t x y U,ty,ps,af,gd⟩ arg r/\R r:=h
theorem Jf(h:∃r,Quiet P hp ⟨dd,.binOp vW t x y U,ty,ps,af,gd⟩ arg r/\R r):∃r,Quiet P hp ⟨dd,.binOp vW t x y U,ty,ps,af,gd⟩ arg r/\R r:=h
theorem A7o(h:∃r,HStep P σ acc e ⟨dd,.binOp vW t x y U,ty,ps,af,gd⟩ r/\H r):∃r,HStep P σ acc e ⟨dd,.binOp vW t x y U,ty,ps,af,gd⟩ r/\H r:=h
theorem AcE{W:UnOp}(h:∃r,Quiet P hp ⟨dd,.unOp W t x,ty,ps,af,gd⟩ arg r/\R r):∃r,Quiet P hp ⟨dd,.unOp W t x,ty,ps,af,gd⟩ arg r/\R r:=h
theorem A9K{W:UnOp}(h:∃r,HStep P σ acc e ⟨dd,.unOp W t x,ty,ps,af,gd⟩ r/\H r):∃r,HStep P σ acc e ⟨dd,.unOp W t x,ty,ps,af,gd⟩ r/\H r:=h
theorem Abi(h:∃r,Quiet P hp ⟨dd,.extract x n,ty,ps,af,gd⟩ arg r/\R r):∃r,Quiet P hp ⟨dd,.extract x n,ty,ps,af,gd⟩ arg r/\R r:=h
theorem A7n(h:∃r,HStep P σ acc e ⟨dd,.extract x n,ty,ps,af,gd⟩ r/\H r):∃r,HStep P σ acc e ⟨dd,.extract x n,ty,ps,af,gd⟩ r/\H r:=h
theorem OL(h:∃r,Quiet P hp ⟨dd,.pick x y vT,ty,ps,af,gd⟩ arg r/\R r):∃r,Quiet P hp ⟨dd,.pick x y vT,ty,ps,af,gd⟩ arg r/\R r:=h
theorem A31(h:∃r,HStep P σ acc e ⟨dd,.pick x y vT,ty,ps,af,gd⟩ r/\H r):∃r,HStep P σ acc e ⟨dd,.pick x y vT,ty,ps,af,gd⟩ r/\H r:=h
theorem ZR(h:∃r,Quiet P hp ⟨dd,.build t xg,ty,ps,af,gd⟩ arg r/\R r):∃r,Quiet P hp ⟨dd,.build t xg,ty,ps,af,gd⟩ arg r/\R r:=h
theorem Tt(h:∃r,HStep P σ acc e ⟨dd,.build t xg,ty,ps,af,gd⟩ r/\H r):∃r,HStep P σ acc e ⟨dd,.build t xg,ty,ps,af,gd⟩ r/\H r:=h
theorem A4v(h:∃r,Quiet P hp ⟨dd,.buildSlice n b xg,ty,ps,af,gd⟩ arg r/\R r):∃r,Quiet P hp ⟨dd,.buildSlice n b xg,ty,ps,af,gd⟩ arg r/\R r:=h
theorem Qb(h:∃r,HStep P σ acc e ⟨dd,.buildSlice n b xg,ty,ps,af,gd⟩ r/\H r):∃r,HStep P σ acc e ⟨dd,.buildSlice n b xg,ty,ps,af,gd⟩ r/\H r:=h
theorem A97(h:∃r,Quiet P hp ⟨dd,.convert t U x,ty,ps,af,gd⟩ arg r/\R r):∃r,Quiet P hp ⟨dd,.convert t U x,ty,ps,af,gd⟩ arg r/\R r:=h
theorem XC(h:∃r,HStep P σ acc e ⟨dd,.convert t U x,ty,ps,af,gd⟩ r/\H r):∃r,HStep P σ acc e ⟨dd,.convert t U x,ty,ps,af,gd⟩ r/\H r:=h
theorem A7p(h:∃r,HStep P σ acc e ⟨dd,.alloc t,ty,ps,af,gd⟩ r/\H r):∃r,HStep P σ acc e ⟨dd,.alloc t,ty,ps,af,gd⟩ r/\H r:=h
theorem ZS(h:AWl P s0 m ops Q (⟨dd,.alloc t,ty,ps,af,gd⟩::rest) σ):AWl P s0 m ops Q (⟨dd,.alloc t,ty,ps,af,gd⟩::rest) σ:=h
theorem Tu(h:AWl P s0 m ops Q (⟨dd,.store t x y,ty,ps,af,gd⟩::rest) σ):AWl P s0 m ops Q (⟨dd,.store t x y,ty,ps,af,gd⟩::rest) σ:=h
theorem A7s(h:AWl P s0 m ops Q (⟨dd,.box t x,ty,ps,af,gd⟩::rest) σ):AWl P s0 m ops Q (⟨dd,.box t x,ty,ps,af,gd⟩::rest) σ:=h
theorem Abk(h:AWl P s0 m ops Q (⟨dd,.call { callee:=.builtin .append,args:=uM,argTypes:=vt },ty,ps,af,gd⟩::rest) σ):AWl P s0 m ops Q (⟨dd,.call { callee:=.builtin .append,args:=uM,argTypes:=vt },ty,ps,af,gd⟩::rest) σ:=h
theorem AcG(h:AWl P s0 m ops Q (⟨dd,.makeSlice t x y,ty,ps,af,gd⟩::rest) σ):AWl P s0 m ops Q (⟨dd,.makeSlice t x y,ty,ps,af,gd⟩::rest) σ:=h
theorem A9L(h:AWl P s0 m ops Q (⟨dd,.buildSlice t 0 #[],ty,ps,af,gd⟩::rest) σ):AWl P s0 m ops Q (⟨dd,.buildSlice t 0 #[],ty,ps,af,gd⟩::rest) σ:=h
theorem KV{q y:Code}(h:AWp P s0 m (.cond x q y) Q σ):AWp P s0 m (.cond x q y) Q σ:=h
end
structure CellAt(ds:List D)(off:Nat)(u:D):Prop where
 lt:off<ds.length
 eq:Dd ds off=u
structure PartAt(ds:List D)(off n:Nat)(es:List D):Prop where
 le:off+n<=ds.length
 eq:(ds.drop off).take n=es
structure SetAt(ds:List D)(off:Nat)(es ds':List D):Prop where
 le:off+es.length<=ds.length
 eq:TQ ds off es=ds'
theorem CellAt.mon{a:Nat->Int}(h:n<8):CellAt (CN a) n (eI (a n)):=⟨h,NZ h⟩
theorem JB(h:n<8):CellAt (CN vi) (0+n*1) (eI (vi n)):=by rw[YaH,Ybz];exact .mon h
theorem If{k:Nat}(h:k<8):CellAt ((CN vi).drop (k*1)) 0 (eI (vi k)):=by
 rw[Ybz];refine⟨by rw[Ybx,YD];omega,?_⟩;rw[Ja];exact NZ h
theorem A3C(h:n<8):TQ (CN vi) n [eI a]=CN (RW vi n a):=by
 match n,h with
 |0,_=>rfl
 |1,_=>rfl
 |2,_=>rfl
 |3,_=>rfl
 |4,_=>rfl
 |5,_=>rfl
 |6,_=>rfl
 |7,_=>rfl
theorem SetAt.mon{a:Nat->Int}{z:Int}(h:n<8):SetAt (CN a) (0+n*1) [eI z] (CN (RW a n z)):=by
 rw[YaH,Ybz];exact⟨h,A3C h⟩
def Aa3:List (List D)->Nat->Option (List D)
 |[],_=>none
 |r::_,0=>some r
 |_::l,i+1=>Aa3 l i
theorem A2l:∀{l:List (List D)} {i:Nat} {r:List D},Aa3 l i=some r->r=l.getD i []/\i<l.length
 |[],_,_,h=>by cases h
 |x::l,0,r,h=>by cases h;exact⟨rfl,by simp⟩
 |x::l,i+1,r,h=>by
  obtain⟨q,A⟩:=A2l (l:=l) (i:=i) h;exact⟨by simpa using q,by simp;omega⟩
section
variable {P:Program} {hp:List Ow} {arg:Operand->AV} {dd:Option Tmp} {ty:TypeId} {ps:String} {af:Array Edge} {gd:Option (Nat×Bool)}
theorem Nx{e n b h H len id off k:Nat}(C:arg x=.ptr id off)(M:arg y=.d (ex (.int i ((k:Nat):Int))))(L:Tab P t (.array len e) n b z)(q:Tab P e d h H u)(B:k<len):Quiet P hp ⟨dd,.indexAddr t x y,ty,ps,af,gd⟩ arg (.ptr id (off+k*h)):=
 OC (o:=⟨dd,.indexAddr t x y,ty,ps,af,gd⟩) rfl C M L q ZbC ZbC
theorem Md{e n b h H len T k:Nat}(C:arg x=.d (Fk T v))(M:arg y=.d (ex (.int i ((k:Nat):Int))))(L:Tab P t (.array len e) n b z)(q:Tab P e d h H u)(B:k<len):Quiet P hp ⟨dd,.indexAddr t x y,ty,ps,af,gd⟩ arg (.d (Fk T (v.drop (k*h)))):=
 OE (o:=⟨dd,.indexAddr t x y,ty,ps,af,gd⟩) rfl C M L q ZbC ZbC
theorem HD{e n b h H T l:Nat}{r:List D}(C:HO hp (arg x)=some (slD T l vk))(M:arg y=.d (ex (.int i a)))(L:Tab P t (.slice e) n b z)(B:Tab P e d h H u)(v:h=l)(Y:Aa3 vk a.toNat=some r)(c:0<=a):Quiet P hp ⟨dd,.indexAddr t x y,ty,ps,af,gd⟩ arg (.d (Fk T r)):=by
 obtain⟨q,A⟩:=A2l Y;rw[q];exact Quiet.index (o:=⟨dd,.indexAddr t x y,ty,ps,af,gd⟩) rfl C M L B v c ZbC
theorem Jy(C:arg x=.d (eN n))(M:arg y=.d (eI 1))(c:0<n)(q:(n:Int)<9223372036854775807):Quiet P hp ⟨dd,.binOp .sub t x y U,ty,ps,af,gd⟩ arg (.d (eN (n-1))):=by
 have:=Quiet.sub (P:=P) (hp:=hp) (o:=⟨dd,.binOp .sub t x y U,ty,ps,af,gd⟩) rfl C M ZbC ZbC;rwa [show(n:Int)-1=((n-1:Nat):Int)by omega]at this
theorem MJ(C:arg x=.ptr m c)(A:hp[m]? = some (.var T (v.map .d)))(L:Tab P t d n b z)(q:ES d=false)(G:CellAt v c r):Quiet P hp ⟨dd,.load t x,ty,ps,af,gd⟩ arg (.d r):=by
 have:=OB (P:=P) (o:=⟨dd,.load t x,ty,ps,af,gd⟩) rfl C A L q G.lt;rwa [G.eq]at this
theorem Ie(C:arg x=.d (Fk T v))(L:Tab P t d n b z)(q:ES d=false)(G:CellAt v 0 r):Quiet P hp ⟨dd,.load t x,ty,ps,af,gd⟩ arg (.d r):=by
 have:=OA (P:=P) (hp:=hp) (o:=⟨dd,.load t x,ty,ps,af,gd⟩) rfl C L q G.lt;rwa [G.eq]at this
theorem Xt(C:arg x=.d (Fk T v))(L:Tab P t d n b z)(q:ES d=true)(G:PartAt v 0 n vn):Quiet P hp ⟨dd,.load t x,ty,ps,af,gd⟩ arg (.d (AP vn)):=by
 have:=LY (P:=P) (hp:=hp) (o:=⟨dd,.load t x,ty,ps,af,gd⟩) rfl C L q (by have:=G.le;omega);rwa [<-G.eq,YaW]
theorem Gw(C:arg x=.d (AP v))(M:arg y=.d (ex (.int i ((k:Nat):Int))))(L:Tab P t (.array c n) b T z)(q:Tab P n d 1 m u)(A:ES d=false)(B:k<c)(G:CellAt v k r):Quiet P hp ⟨dd,.index t x y,ty,ps,af,gd⟩ arg (.d r):=by
 have:=Vn (P:=P) (hp:=hp) (o:=⟨dd,.index t x y,ty,ps,af,gd⟩) rfl C M L q A ZbC ZbC (by have:=G.lt;omega);exact ZiV
theorem HF{e n b h H len k:Nat}(C:arg x=.d (AP v))(M:arg y=.d (ex (.int i ((k:Nat):Int))))(L:Tab P t (.array len e) n b z)(q:Tab P e d h H u)(A:ES d=true)(B:k<len)(G:PartAt v (k*h) h vn):Quiet P hp ⟨dd,.index t x y,ty,ps,af,gd⟩ arg (.d (AP vn)):=by
 have:=A4n (P:=P) (hp:=hp) (o:=⟨dd,.index t x y,ty,ps,af,gd⟩) rfl C M L q A ZbC ZbC G.le;exact ZiV
theorem A3K (a b : Nat → Int) (w : World) : (do eqGuard .eql 112 x y (.agg (c8 a)) (.agg (c8 b)); binOp .eql 112 (.agg (c8 a)) (.agg (c8 b)) : Sem Value).run prog w = .ok (.bool (OS a b)) w := by
 exact ZgO
theorem A3x (a b : Nat → Int) (w : World) : (do eqGuard .neq 112 x y (.agg (c8 a)) (.agg (c8 b)); binOp .neq 112 (.agg (c8 a)) (.agg (c8 b)) : Sem Value).run prog w = .ok (.bool (!OS a b)) w := by
 exact ZgO
theorem Jd {a b v : Value} (G : va.op = .binOp vW t x y U) (C : arg x = .d r) (M : arg y = .d vv) (B : ∀ s u, r.rel s u → u = a) (E : ∀ s u, vv.rel s u → u = b) (Y : ∀ w, (do eqGuard vW t x y a b; binOp vW t a b : Sem Value).run P w = .ok v w) : Quiet P hp va arg (.d (ex v)) := by
 refine⟨λbase s V i F I Z h=>?_⟩;have q:=h x Zef;have A:=h y Zef;rw[C]at q;rw[M]at A;have W:=B s _ q;have o:=E s _ A;have:=Y s.w;refine BW (v:=v) ?_ ⟨GS.Le.refl s,rfl⟩;simp only[execOp,G,W,o,Sem.run_bind,this,Result.andThen_ok,Sem.run_pure]
theorem Me(C:arg x=.d (AP (CN vi)))(M:arg y=.d (AP (CN vH))):Quiet prog hp ⟨dd,.binOp .eql 112 x y t,ty,ps,af,gd⟩ arg (.d (eB (OS vi vH))):=
 Jd rfl C M (λ_ _ h=>Dr h) (λ_ _ h=>Dr h) λw=>A3K vi vH w
theorem Ma{U:TypeId}(C:arg x=.d (AP (CN vi)))(M:arg y=.d (AP (CN vH))):Quiet prog hp ⟨dd,.binOp .neq 112 x y U,ty,ps,af,gd⟩ arg (.d (eB (!OS vi vH))):=
 Jd rfl C M (λ_ _ h=>Dr h) (λ_ _ h=>Dr h) λw=>A3x vi vH w
theorem PT(C:arg x=.d (AP (CN vi)))(M:arg y=.d (AP (CN vH)))(h:OS vi vH=true):Quiet prog hp ⟨dd,.binOp .eql 112 x y t,ty,ps,af,gd⟩ arg (.d (eB true)):=by
 rw[<-h];exact Me C M
theorem PU(C:arg x=.d (AP (CN vi)))(M:arg y=.d (AP (CN vH)))(h:OS vi vH=false):Quiet prog hp ⟨dd,.binOp .eql 112 x y t,ty,ps,af,gd⟩ arg (.d (eB false)):=by
 rw[<-h];exact Me C M
theorem PS{U:TypeId}(C:arg x=.d (AP (CN vi)))(M:arg y=.d (AP (CN vH)))(h:OS vi vH=true):Quiet prog hp ⟨dd,.binOp .neq 112 x y U,ty,ps,af,gd⟩ arg (.d (eB false)):=by
 exact ZhD
theorem PR{U:TypeId}(C:arg x=.d (AP (CN vi)))(M:arg y=.d (AP (CN vH)))(h:OS vi vH=false):Quiet prog hp ⟨dd,.binOp .neq 112 x y U,ty,ps,af,gd⟩ arg (.d (eB true)):=by
 exact ZhD
theorem PV(C:arg x=.d (eB o))(M:arg y=.d (eB uo))(e:P.underlying t=some .bool):Quiet P hp ⟨dd,.binOp .eql t x y U,ty,ps,af,gd⟩ arg (.d (eB (o==uo))):=
 CO (o:=⟨dd,.binOp .eql t x y U,ty,ps,af,gd⟩) rfl C M λw=>by
  exact ZgM
theorem MH(C:arg x=.d (eB o))(M:arg y=.d (eB uo))(e:P.underlying t=some .bool):Quiet P hp ⟨dd,.binOp .neq t x y U,ty,ps,af,gd⟩ arg (.d (eB (!(o==uo)))):=
 CO (o:=⟨dd,.binOp .neq t x y U,ty,ps,af,gd⟩) rfl C M λw=>by
  exact ZgM
end
section
variable {P:Program} {s0:An} {n:Nat} {ops:Array Oper} {Q:Exit->AS->Prop} {rest:List Oper} {fr:List (Nat×AV)} {hp:List Ow} {ty:TypeId} {ps:String} {af:Array Edge}
theorem MM{b id m off:Nat}(C:AS.arg ⟨fr,hp⟩ x=.ptr id off)(M:AS.arg ⟨fr,hp⟩ y=.d (AP vn))(A:hp[id]? = some (.var U (v.map .d)))(L:Tab P t d m b z)(q:vn.length=m)(G:SetAt v off vn xe)(a:Gk hp id (.var U (xe.map .d))=some H)
  (h:AWl P s0 n ops Q rest ⟨fr,H⟩):AWl P s0 n ops Q (⟨none,.store t x y,ty,ps,af,none⟩::rest) ⟨fr,hp⟩:=by
 refine TE (o:=⟨none,.store t x y,ty,ps,af,none⟩) rfl rfl rfl C M A L q (by rw[<-q];exact Ydg G.le) ?_;rw[Ev a,<-G.eq]at h;exact h
theorem Mj{b id off:Nat}(C:AS.arg ⟨fr,hp⟩ x=.ptr id off)(M:AS.arg ⟨fr,hp⟩ y=.d r)(A:hp[id]? = some (.var U (v.map .d)))(L:Tab P t d 1 b z)(q:One hp (.d r))(G:SetAt v off [r] vn)(a:Gk hp id (.var U (vn.map .d))=some H)
  (h:AWl P s0 n ops Q rest ⟨fr,H⟩):AWl P s0 n ops Q (⟨none,.store t x y,ty,ps,af,none⟩::rest) ⟨fr,hp⟩:=by
 have O:off<v.length:=G.le;refine QI (o:=⟨none,.store t x y,ty,ps,af,none⟩) rfl rfl rfl C M A L q O ?_;have W:=G.eq
 have:TQ v off [r]=v.set off r:=by
  unfold TQ;exact Zjr
 rw[this]at W;rw[Ev a,<-W]at h;exact h
end
theorem UA:∀{F P:List Ow} {i:Nat} {x:Ow},F[i]? = some x->Gk F i x=some P->P=F
 |[],_,_,_,h,_=>by cases h
 |o::l,P,0,x,h,b=>by cases h;cases b;rfl
 |o::l,P,i+1,x,h,b=>by
  unfold Gk at b;split at b
  .rename_i r Y
   cases b;rw[UA Zdj Y]
  .cases b
theorem A7A{s0:An}(id:Nat)(A:List D)(q:H[id]? = some (.var t (v.map .d)))(b:v=A)(a:Gk H id (.var t (A.map .d))=some vA)(h:AWl P s0 n ua vm vf ⟨vb,vA⟩):AWl P s0 n ua vm vf ⟨vb,H⟩:=by
 subst b;rw[UA q a]at h;exact h
theorem Cn(h:D.le r uq)(b:D.le vv xd):D.le (FA [r,vv]) (FA [uq,xd]):=λs v C=>by
 obtain⟨J,e,I,B⟩:=C;refine⟨J,e,I,λk F=>?_⟩;obtain⟨u,q,A⟩:=B k F
 match k,F with
 |0,_=>exact⟨u,q,h s u A⟩
 |1,_=>exact⟨u,q,b s u A⟩
 |k+2,F=>exact absurd F ZbR
theorem Tx(h:vc=uj):D.le (BS vc) (BS uj):=Ae (by rw[h])
theorem A4x:D.le (eS) (BS []):=AM
section
variable {P:Program} {hp:List Ow} {arg:Operand->AV} {dd:Option Tmp} {ty:TypeId} {ps:String} {af:Array Edge} {gd:Option (Nat×Bool)}
theorem Rq(C:arg x=.d (wD l))(L:Tab P t (.slice n) b T z):Quiet P hp ⟨dd,.call { callee:=.builtin .len,args:=#[x],argTypes:=#[t] },ty,ps,af,gd⟩ arg (.d (eN l.length)):=by
 refine⟨λbase s V i E v Z h=>?_⟩;have q:=h x Zdc;rw[C]at q;obtain⟨A,c,W,B⟩:=q.1;rw[Yap]at W;refine BW (v:=.int .i64 l.length) ?_ ⟨GS.Le.refl s,rfl⟩;simp[execOp,resolve,invoke,builtin,W,Builtin.len_,run_underlying L.und,goInt]
theorem MK{e n b H k:Nat}(E:arg x=.d (wD l))(M:arg y=.d (ex (.int i ((k:Nat):Int))))(L:Tab P t (.slice e) n b z)(G:Tab P e d 1 H u)(C:k<l.length):Quiet P hp ⟨dd,.indexAddr t x y,ty,ps,af,gd⟩ arg (.d (Fk 335 [ex (.int .u32 (l.getD k 0:Nat))])):=by
 refine⟨λbase s V I O v Z h=>?_⟩;have q:=h x ZcR;have B:=h y ZcR;rw[E]at q;rw[M]at B;have o:I y=.int i ((k:Nat):Int):=B;obtain⟨A,c,W,K,Q,J⟩:=q.1;rw[Yap]at W J;obtain⟨g,p,rfl,N⟩:=J ZbC;have S:=(N k C).2
 have X:(l.map λx=>[ex (.int .u32 (x:Nat))]).getD k []=[ex (.int .u32 (l.getD k 0:Nat))]:=by
  simp[Yaa,C]
 rw[X]at S;refine BW (v:=.pointer (some ⟨g,p+k*1,none⟩)) ?_ ⟨GS.Le.refl s,g,_,rfl,S⟩;have F:k<l.length:=C;simp[execOp,W,o,Instr.indexAt,asIntOf,run_underlying L.und,F,G.run_size,Addr.add_lit]
end
theorem Kf(z:Int):Abs prog 285 [AP (Cr z)] (eB (decide (z=1))):=by
 refine BI (Ag func285 ZbG ZbG) λs J C I r=>?_;rw[vs1 I];obtain⟨u,i,H,W,n,c⟩:=DU (r 0 ZbR);rw[n];exact(A3G u i H W z _ c).mono λe N ⟨b,Z⟩=>⟨_,b,Z,λj q A _ _=>rfl⟩
theorem FR(z:Int):Abs prog 235 [AP (Cr z)] (eI z.sign):=by
 refine BI (Ag func235 ZbG ZbG) λs J C I r=>?_;rw[vs1 I];obtain⟨u,i,H,W,n,c⟩:=DU (r 0 ZbR);rw[n];exact(A5m u i H W z _ c).mono λe N ⟨b,Z⟩=>⟨_,b,Z,λj q A _ _=>rfl⟩
theorem Rl(x y:Int)(g:(Aw x.natAbs).length<=4398046511104)(l:(Aw y.natAbs).length<=4398046511104):Abs prog 290 [AP (Cr x),AP (Cr y)] (AP (Cr (Nat.gcd x.natAbs y.natAbs:Nat))):=by
 refine BI (Ag func290 ZbG ZbG) λs J C I r=>?_;rw[vs2 I];obtain⟨u,i,H,A,n,c⟩:=DU (r 0 ZbR);obtain⟨L,a,G,K,W,q⟩:=DU (r 1 ZbR);rw[n,W];exact(A8r u L i a H A G K x y _ c q g l).mono λe N ⟨y,Y,m,k,b,E,Z⟩=>⟨_,b,Z,λj B F _ _=>by subst B;exact HN F E⟩
theorem Wy(x y:Int)(g:(Aw x.natAbs).length<=4398046511104)(l:(Aw y.natAbs).length<=4398046511104):Abs prog 286 [AP (Cr x),AP (Cr y)] (AP (Cr (x*y))):=by
 refine BI (Ag func286 ZbG ZbG) λs J C I r=>?_;rw[vs2 I];obtain⟨u,i,H,A,n,c⟩:=DU (r 0 ZbR);obtain⟨L,a,G,K,W,q⟩:=DU (r 1 ZbR);rw[n,W];exact(A8d u L i a H A G K x y _ c q g l).mono λe N ⟨y,Y,m,k,b,E,Z⟩=>⟨_,b,Z,λj B F _ _=>by subst B;exact HN F E⟩
theorem Wn(z:Int)(c:-9223372036854775808<=z)(q:z<=9223372036854775807):Abs prog 139 [eI z] (AP (Cr z)):=by
 refine BI (Ag func139 ZbG ZbG) λs J C I r=>?_;rw[vs1 I];have n:J.getD 0 undef=.int .i64 z:=r 0 ZbR;rw[n];exact(Aag z _ c q).mono λe N ⟨y,Y,m,k,b,B,Z⟩=>⟨_,b,Z,λj A E _ _=>by subst A;exact HN E B⟩
theorem Th(x y:Int)(g:(Aw x.natAbs).length<=4398046511103)(l:(Aw y.natAbs).length<=4398046511103):Abs prog 226 [AP (Cr x),AP (Cr y)] (AP (Cr (Nat.gcd x.natAbs y.natAbs:Nat))):=by
 refine BI (Ag func226 ZbG ZbG) λs J C I r=>?_;rw[vs2 I];obtain⟨u,i,H,A,n,c⟩:=DU (r 0 ZbR);obtain⟨L,a,G,K,W,q⟩:=DU (r 1 ZbR);rw[n,W];exact(A6S u L i a H A G K x y _ c q g l).mono λe N ⟨y,Y,m,k,b,E,Z⟩=>⟨_,b,Z,λj B F _ _=>by subst B;exact HN F E⟩
theorem KQ(z:Int)(c:-9223372036854775808<=z)(q:z<=9223372036854775807):Abs prog 141 [eI z] (AP (Cr z)):=by
 refine BI (Ag func141 ZbG ZbG) λs J C I r=>?_;rw[vs1 I];have n:J.getD 0 undef=.int .i64 z:=r 0 ZbR;rw[n];exact(A8S z _ c q).mono λe N ⟨y,Y,m,k,b,B,Z⟩=>⟨_,b,Z,λj A E _ _=>by subst A;exact HN E B⟩
theorem Qw(x y:Nat):Abs prog 284 [wD (Aw x),wD (Aw y)] (eI (FE x y)):=by
 refine BI (Ag func284 ZbG ZbG) λs J C I r=>?_;rw[vs2 I];exact(Jv _ _ x y _ (Et (r 0 ZbR)) (Et (r 1 ZbR))).mono λe N ⟨b,Z⟩=>⟨_,b,Z,λj c n _ _=>rfl⟩
theorem HT(x y:Nat):Abs prog 276 [wD (Aw x),wD (Aw y)] (eI (FE x y)):=by
 refine BI (Ag func276 ZbG ZbG) λs J C I r=>?_;rw[vs2 I];exact(HP _ _ x y _ (Et (r 0 ZbR)) (Et (r 1 ZbR))).mono λe N ⟨b,Z⟩=>⟨_,b,Z,λj c n _ _=>rfl⟩
section
variable {P:Program} {hp:List Ow} {arg:Operand->AV} {dd:Option Tmp} {ty:TypeId} {ps:String} {af:Array Edge} {gd:Option (Nat×Bool)}
theorem Tn(C:arg x=.d (eI a))(q:-9223372036854775807<=a)(A:a<=9223372036854775807):Quiet P hp ⟨dd,.unOp .neg t x,ty,ps,af,gd⟩ arg (.d (eI (-a))):=by
 refine⟨λbase s V i B v Z h=>?_⟩;have K:=h x ZcR;rw[C]at K;have W:i x=.int .i64 a:=K;have o:IntKind.i64.wrap (-a)=-a:=IntWalk.i64_in _ ZbC;exact BW (v:=.int .i64 (-a)) (by simp[execOp,W,Op.unary,Op.intArith,o]) ⟨GS.Le.refl s,rfl⟩
theorem Ge(C:arg x=.d (ex (.int i a)))(p:Tab P t d n b z)(e:Tab P U (.int .i64) T m u)(q:-9223372036854775808<=a)(A:a<=9223372036854775807):Quiet P hp ⟨dd,.convert t U x,ty,ps,af,gd⟩ arg (.d (eI a)):=by
 have:=Ru (hp:=hp) (dd:=dd) (ty:=ty) (ps:=ps) (af:=af) (gd:=gd) C p e;rwa [IntWalk.i64_in _ ZbC]at this
theorem OG{T U:TypeId}(C:arg x=.d (eI 1))(M:arg y=.d (eN n))(q:(n:Int)<9223372036854775807):Quiet P hp ⟨dd,.binOp .add T x y U,ty,ps,af,gd⟩ arg (.d (eN (n+1))):=by
 have:=PW (P:=P) (hp:=hp) (dd:=dd) (ty:=ty) (ps:=ps) (af:=af) (gd:=gd) (T:=T) (U:=U) C M ZbC ZbC;rwa [show(1:Int)+n=((n+1:Nat):Int)by omega]at this
end
section
variable {P:Program} {hp:List Ow} {arg:Operand->AV} {dd:Option Tmp} {ty:TypeId} {ps:String} {af:Array Edge} {gd:Option (Nat×Bool)}
theorem Xu(C:arg x=.d (Fk f v))(M:arg y=.d (ex (.int i a)))(L:Tab P t (.array k n) b T z)(q:Tab P n d m c u)(A:0<=a)(I:a<k)(Y:Qu (a.toNat*m) v=some vn):Quiet P hp ⟨dd,.indexAddr t x y,ty,ps,af,gd⟩ arg (.d (Fk f vn)):=by
 rw[(Od Y).1];exact OE (o:=⟨dd,.indexAddr t x y,ty,ps,af,gd⟩) rfl C M L q A I
theorem Rr(C:arg x=.ptr f vj)(M:arg y=.d (ex (.int i a)))(L:Tab P t (.array k n) b T z)(q:Tab P n d m c u)(A:0<=a)(I:a<k):Quiet P hp ⟨dd,.indexAddr t x y,ty,ps,af,gd⟩ arg (.ptr f (vj+a.toNat*m)):=
 OC (o:=⟨dd,.indexAddr t x y,ty,ps,af,gd⟩) rfl C M L q A I
end
def r5C(r:Nat->Int):List D:=[ex (.int .i8 (r 0)),ex (.int .i8 (r 1)),ex (.int .i8 (r 2)),ex (.int .i8 (r 3)),ex (.int .i8 (r 4))]
theorem Aa8(h:n<5):Dd (r5C vi) n=ex (.int .i8 (vi n)):=by
 match n,h with
 |0,_=>rfl
 |1,_=>rfl
 |2,_=>rfl
 |3,_=>rfl
 |4,_=>rfl
theorem A4F(h:n<5):CellAt ((r5C vi).drop (n*1)) 0 (ex (.int .i8 (vi n))):=by
 rw[Ybz];refine⟨by rw[Ybx];show 0<5-n;omega,?_⟩;rw[Ja];exact Aa8 h
def r5D(T:Nat)(X:List (Nat->Int)):D:=slD T 5 (X.map r5C)
def Hp(X:List (Nat->Int))(k:Nat):Nat->Int:=X.getD k default
theorem YR(h:n<vx.length):Hp vx n∈vx:=by
 unfold Hp;exact Zgh
inductive AddE(e:Nat):List Oper->List Oper->Prop
 |nil:AddE e [] []
 |keep {o:Oper} {l l':List Oper} (h:AddE e l l'):AddE e (o::l) (o::l')
 |add {dd:Option Tmp} {op:Op} {ty:TypeId} {ps:String} {af:Array Edge} {gd:Option (Nat×Bool)} {l l':List Oper} (h:AddE e l l'):AddE e (⟨dd,op,ty,ps,af,gd⟩::l) (⟨dd,op,ty,ps,af.push ⟨e,.data⟩,gd⟩::l')
theorem AddE.length{e:Nat}{l l':List Oper}(h:AddE e l l'):l.length=l'.length:=by
 induction h<;>simp_all
theorem AddE.at{e:Nat}{l q:List Oper}(h:AddE e l q):∀(i:Nat) (o:Oper),l[i]? = some o->∃x,q[i]? = some x/\(x=o\/x={ o with after:=o.after.push ⟨e,.data⟩ }):=by
 induction h with
 |nil=>intro i o s;simp at s
 |keep h u=>
  intro i o s
  cases i with
  |zero=>simp at s;subst s;exact⟨_,by simp,.inl rfl⟩
  |succ i=>simpa using u i o ZdQ
 |add h u=>
  intro i o s
  cases i with
  |zero=>simp at s;subst s;exact⟨_,by simp,.inr rfl⟩
  |succ i=>simpa using u i o ZdQ
def SG(e:Nat)(L q:List Oper):Bool:=
 match L[e]?,q[e]? with
 |some k,some C=>(match k.op with |.extract _ _=>true |.move _=>true |_=>false)&&k.guard.isNone&&(Bw k==Bw C) &&
  ((List.range L.length).all λi=>match L[i]?,q[i]? with
   |some o,some x=>(Bw o==Bw x)||(Bw k).all λj=>(Bw o).contains j
   |_,_=>false) &&
  ((List.range L.length).all λj=>j==e||match L[j]? with
   |some o=>(Bw o).contains e||(Bw k).contains j||k.apart L.toArray o
   |none=>false) &&
  L.all λo=>BN o.op
 |_,_=>false
theorem YW{a:Act}(F:(∃x n,va.op=.extract x n)\/∃x,va.op=.move x):(∃v,∀w,(execOp a.eval va).run P w=.ok (.value v) w)\/∀(K:Act->World->Prop) (Q:Exit->Act->World->Prop) w,¬va.wp P a w K Q:=by
 rcases F with⟨x,n,F⟩ | ⟨x,F⟩
 case inr=>exact .inl ⟨a.eval x,λw=>by simp[execOp,F]⟩
 cases C:a.eval x with
 |tuple f=>
  cases G:f[n]? with
  |some v=>exact .inl ⟨v,λw=>by simp[execOp,F,Instr.extract,C,G]⟩
  |none=>
   refine .inr λK Q w c=>?_;simp[Oper.wp,execOp,F,Instr.extract,C,G,stuck,Oper.upon]at c
 |_=>
  refine .inr λK Q w c=>?_;simp[Oper.wp,execOp,F,Instr.extract,C,stuck,Oper.upon]at c
theorem DH{L:List Oper}(v:vO.size=L.length)(s:L[n]? = some va):n∈Region.ready .any L.toArray vO↔vO.getD n false=false/\∀k∈Bw va,vO.getD k false=true:=by
 have O:n<vO.size:=by rw[v];exact(Yae.1 s).1
 rw[mem_ready];have e:vO.getD n true=vO.getD n false:=by simp[O]
 rw[e];refine and_congr_right λ_=>⟨λ⟨x,q,A⟩ k B=>?_,λh=>⟨va,by simpa using s,λe b E=>h _ (Mt b E)⟩⟩;obtain rfl:x=va:=by rw[YbH,s]at q;exact(Yag q).symm
 obtain⟨e,b,E,rfl⟩:=Ki B;exact A e b E
theorem A3M(h:b∈Bw va):b∈Bw { va with after:=va.after.push ⟨n,.data⟩ }:=by
 obtain⟨x,C,E,rfl⟩:=Ki h;exact Mt (by simp[C]) E
theorem UZ(h:b∈Bw { va with after:=va.after.push ⟨n,.data⟩ }):b∈Bw va\/b=n:=by
 obtain⟨x,C,E,rfl⟩:=Ki h;rcases Array.mem_push.1 C with C | rfl
 .exact .inl (Mt C E)
 .exact .inr rfl
theorem Li{Q:Exit->Act->World->Prop}(m:AddE n vf uN)(F:SG n vf uN=true)(H:∀c a w,¬Q (.panic c) a w)(xo:¬LetsOut Q):∀(f:Nat) (W:Array Bool) (a:Act) (w:World),W.size=vf.length ->
  (∀j o,vf[j]? = some o->W.getD j false=true->∀k∈Bw o,W.getD k false=true) ->
  wpAny P .any uN.toArray Q f W a w->wpAny P .any vf.toArray Q f W a w:=by
 obtain⟨oe,xv,L,xe,xj,xd,xp,xm,xC,xD⟩:∃oe xv,vf[n]? = some oe/\uN[n]? = some xv/\((∃x q,oe.op=.extract x q)\/∃x,oe.op=.move x)/\oe.guard=none/\Bw oe=Bw xv/\(∀i o V,vf[i]? = some o->uN[i]? = some V->Bw o=Bw V\/∀j∈Bw oe,j∈Bw o)/\(∀j o,vf[j]? = some o->j=n\/n∈Bw o\/j∈Bw oe\/oe.apart vf.toArray o=true)/\∀o∈vf,BN o.op=true:=by
  unfold SG at F;split at F
  .rename_i oe xv L xe
   simp only[Yam]at F;obtain⟨⟨⟨⟨⟨A,B⟩,K⟩,G⟩,N⟩,Z⟩:=F;refine⟨oe,xv,L,xe,?_,by simpa using B,by simpa using K,λi o V s z=>?_,λj o s=>?_,λo s=>Yah.1 Z o s⟩
   .split at A
    .exact .inl ⟨_,_,by assumption⟩
    .exact .inr ⟨_,by assumption⟩
    .cases A
   .have:=Yah.1 G i (Ybd.2 (Yae.1 s).1)
    rw[s,z]at this;exact ZjY
   .have:=Yah.1 N j (Ybd.2 (Yae.1 s).1)
    rw[s]at this;simp only[YaT,YcI]at this;simp only[Ybv]at this;rcases this with h | (h | h) | h
    .exact .inl h
    .exact .inr (.inl h)
    .exact .inr (.inr (.inl h))
    .exact .inr (.inr (.inr h))
  .cases F
 have d:=xj;have l:=m.length;have xq:n<vf.length:=(Yae.1 L).1
 have xk:∀(j:Nat) (o:Oper) M b,vf.toArray[j]? = some o->o.op≠.select M b:=λj o M b s h=>by
  have:=xD o (Yaz (i:=j) ZdQ);rw[h]at this;cases this
 intro f
 induction f with
 |zero=>
  intro W a w p U h;refine⟨?_,h.2⟩;have A:=h.1;refine YdR.2 λi J=>?_;obtain⟨_,o,s,_⟩:=mem_ready.1 J;have s:vf[i]? = some o:=by simpa using s
  obtain⟨V,z,xt⟩:=m.at i o s;have xr:=(DH p s).1 J;by_cases Y:i∈Region.ready .any uN.toArray W
  .rw [A]at Y;cases Y
  .have xi:n∈Region.ready .any uN.toArray W:=by
    rw[DH (by rw[p,l]) z]at Y;rw[DH (by rw[p,l]) xe,<-xp];rcases xm i o V s z with h | h
    .exact absurd ⟨xr.1,by rw[<-h];exact xr.2⟩ Y
    .refine ⟨?_,λk C=>xr.2 k (h k C)⟩
     cases R:W.getD n false with
     |false=>rfl
     |true=>
      refine absurd ⟨xr.1,λk C=>?_⟩ Y;rcases xt with rfl | rfl
      .exact xr.2 k C
      .rcases UZ C with C | rfl
       .exact xr.2 k C
       .exact R
   rw[A]at xi;cases xi
 |succ f u=>
  intro W a w p U h;by_cases xn:n∈Region.ready .any vf.toArray W
  .have xA:=(DH p L).1 xn
   have xF:n∈Region.ready .any uN.toArray W:=(DH (by rw[p,l]) xe).2 ⟨xA.1,by rw[<-xp];exact xA.2⟩;have A:=h.2 n xF;obtain⟨xw,xh,xt⟩:=m.at n oe L;obtain rfl:xw=xv:=Yag (xh.symm.trans xe);have xu:execOp a.eval xw=execOp a.eval oe:=by rcases xt with rfl | rfl<;>rfl
   have T:xw.guard=none:=by rcases xt with rfl | rfl<;>exact xd
   have xl:xw.dst=oe.dst:=by rcases xt with rfl | rfl<;>rfl
   unfold wpOp at A;rw[show uN.toArray[n]? = some xw by simpa using xe]at A;simp only[Region.wanted,T,if_true]at A;have A:xw.wp P a w (wpAny P .any uN.toArray Q f (W.setIfInBounds n true)) Q:=A.elim id λh=>absurd h.2 xo;rcases YW (P:=P) (a:=a) d with⟨v,S⟩ | xg
   .have B:wpAny P .any uN.toArray Q f (W.setIfInBounds n true) (a.put oe.dst v) w:=by
     unfold Oper.wp at A;rw[xu,S w,Oper.upon_value,xl]at A;exact A
    refine wpAny_first (v:=v) (show vf.toArray[n]? = some oe by simpa using L) xk (λc a w h=>absurd h (H c _ w)) f W a w (λj oj X y xc xg=>?_) xn (.inl ⟨by simp[Region.wanted,xd],S⟩) (u _ _ _ (by simpa using p) (λj o s I k C=>?_) B)
    .have X:vf[j]? = some oj:=by simpa using X
     rcases xC j oj X with h | h | h | h
     .exact absurd h y
     .obtain ⟨x,E,xx,xG⟩:=Ki h
      exact absurd xG (xg x E xx)
     .have:=xA.2 j h
      have O:j<W.size:=by rw[p];exact(Yae.1 X).1
      simp[O]at this xc;rw[this]at xc;cases xc
     .exact h
    .by_cases xz:j=n
     .subst xz
      obtain rfl:o=oe:=Yag (s.symm.trans L);exact getD_set_true (xA.2 k C)
     .rw [getD_set_ne false (λh=>xz h.symm)]at I
      exact getD_set_true (U j o s I k C)
   .exfalso
    refine xg (wpAny P .any uN.toArray Q f (W.setIfInBounds n true)) Q w ?_;unfold Oper.wp at A ⊢;rw[xu]at A
    have:∀(r:Result Next),xw.upon P a (wpAny P .any uN.toArray Q f (W.setIfInBounds n true)) Q r=oe.upon P a (wpAny P .any uN.toArray Q f (W.setIfInBounds n true)) Q r:=λr=>by
     rcases xt with rfl | rfl<;>rfl
    rwa [this]at A
  .have xB:∀i,i∈Region.ready .any vf.toArray W↔i∈Region.ready .any uN.toArray W:=λi=>by
    by_cases xf:i<vf.length
    .have s:vf[i]? = some vf[i]:=Yab xf
     obtain⟨V,z,xt⟩:=m.at i _ s;rw[DH p s,DH (by rw[p,l]) z];refine and_congr_right λxc=>⟨λh k C=>?_,λh k C=>?_⟩
     .rcases xm i _ V s z with e | e
      .exact h k (by rw[e];exact C)
      .rcases xt with rfl | rfl
       .exact h k C
       .rcases UZ C with C | rfl
        .exact h k C
        .cases R:W.getD k false with
         |true=>rfl
         |false=>exact absurd ((DH p L).2 ⟨R,λj X=>h j (e j X)⟩) xn
     .rcases xt with rfl | rfl
      .exact h k C
      .exact h k (A3M C)
    .constructor
     .intro h
      obtain⟨_,o,s,_⟩:=mem_ready.1 h;have:=(YbA.1 s).1;simp at this;exact absurd this xf
     .intro h
      obtain⟨_,o,s,_⟩:=mem_ready.1 h;have:=(YbA.1 s).1;simp at this;exact absurd ZbC xf
   refine⟨λg=>h.1 (YdR.2 λi J=>?_),λi J=>?_⟩
   .have:=(xB i).2 J
    rw[g]at this;cases this
   .have A:=h.2 i ((xB i).1 J)
    obtain⟨_,o,s,_⟩:=mem_ready.1 J;have s:vf[i]? = some o:=by simpa using s
    obtain⟨V,z,xt⟩:=m.at i o s;have xr:=(DH p s).1 J
    have xH:∀t,yielded uN.toArray t=yielded vf.toArray t:=λt=>by
     funext j;unfold yielded;simp only[YbH]
     cases X:vf[j]? with
     |none=>
      have:uN[j]? = none:=by rw[Ycr]at X ⊢;omega
      rw[this]
     |some oj=>
      obtain⟨xI,xs,xy⟩:=m.at j oj X;rw[xs];rcases xy with rfl | rfl<;>rfl
    have xE:∀j o,vf[j]? = some o->(W.setIfInBounds i true).getD j false=true->∀k∈Bw o,(W.setIfInBounds i true).getD k false=true:=λj oj xa I k C=>by
     by_cases xb:j=i
     .subst xb
      obtain rfl:oj=o:=Yag (xa.symm.trans s);exact getD_set_true (xr.2 k C)
     .rw [getD_set_ne false (λh=>xb h.symm)]at I
      exact getD_set_true (U j oj xa I k C)
    refine wpOp_mono (λa w h=>u _ a w (by simpa using p) xE h) ?_;unfold wpOp at A ⊢;rw[show uN.toArray[i]? = some V by simpa using z]at A;rw[show vf.toArray[i]? = some o by simpa using s];rw[xH]at A;rcases xt with rfl | rfl
    .exact A
    .exact A
structure OnlyN(Q:Exit->AS->Prop)(e:Exit)(σ:AS):Prop where
 how:e=.normal
 run:Q .normal σ
theorem OnlyN.mk'(h:vm .normal ve):OnlyN vm .normal ve:=⟨rfl,h⟩
theorem XD{s0:An}{e:Nat}(v:P.follows .mixedOrders=true)(s:AddE e vf uN)(E:SG e vf uN=true):DrawOk P s0 n b vf.toArray uN vm (OnlyN vm):=⟨λa w h=>by
 have L:∀j,(Array.replicate vf.toArray.size false).getD j false=false:=λj=>by
  rcases YaI j vf.length with h | h
  .simp [h]
  .simp [h]
 have A:uN.toArray.size=vf.toArray.size:=by simp[s.length]
 rw[A]at h;have F:∀c a w,¬GR s0 n (OnlyN vm) (.panic c) a w:=λc a w ⟨B,h,_⟩=>Zjz
 have I:¬LetsOut (GR s0 n (OnlyN vm)):=λ⟨a,w,B,h,_⟩=>Zjz
 have q:=Li s E F I _ _ _ _ ZbR (λj o _ I=>by rw[L]at I;cases I) h
 exact wp_mono (wp_region_any v q) λex Y N ⟨B,h,A⟩=>by
  obtain⟨rfl,h⟩:=h;exact⟨B,h,A⟩⟩
end
