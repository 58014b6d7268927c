/- Part 19 of the proof of claimAnswers_holds. No condition. -/
import Derived.Test.YtcikkglcoeedlaaGreatCa3
import Derived.Test.YtcikkglcoeedlaaGreatCa4
import Derived.Test.YtcikkglcoeedlaaGreatCa16
import Derived.Test.YtcikkglcoeedlaaGreatCa17
import Derived.Test.YtcikkglcoeedlaaGreatCa18
set_option linter.unusedSimpArgs false
set_option linter.unusedVariables false
set_option maxRecDepth 100000
namespace Go.Proofs.YtcikkglcoeedlaaGreat
variable{vc:AS}{h:AV}{uT:AV->Prop}{uU:Array (Nat×Operand)}{vS:Array Field}{vY:Array Oper}{uD:Array Operand}{vr:Array TypeId}{vU:BinOp}{r vt:D}{vm:Exit->AS->Prop}{vW:Field}{vK:Func}{vb:FuncId}{s:GS}{i j:Int}{o:IntKind}{vl uf:List (List D)}{vx:List (Nat->Int)}{vf:List (Nat×AV)}{uq:List (Nat×List D)}{vE:List (Nat×Nat)}{vX:List (Nat×Operand)}{u:List AV}{c vn uS:List D}{um:List HR}{l:List Nat}{vJ:List Operand}{H:List Ow}{vi:List Tm}{ub:List Value}{e:Type}{vu:List e}{n b T m a k g vk:Nat}{vd:Nat->Int}{uj:Op}{va:Oper}{x y vN:Operand}{vz:Operand->AV}{P:Program}{vL:Rat}{vO:Tm}{d:TypeDesc}{t U:TypeId}{z v:Value}{w:World}{vP:e}{vF:e->List D}
section
open Go.RowKit
theorem Ag (p : P.funcs[vb]? = some vK) (i : (vK.name == "runtime.NumGoroutine") = false) (F : vK.body.isNone = false) (args : Array Value) (w : World) : (callFunc vb args).run P w = .ok (.enter vb args) w := by
 have:(program).run P w = .ok P w:=rfl;have b : ¬ vK.name = "runtime.NumGoroutine" := by simpa using i
 have A:¬vK.body=none:=λe=>by rw[e]at F;cases F
 simp[callFunc,this,p,b,A]
theorem Bw(u:∀args w,(callFunc vb args).run P w=.ok (.enter vb args) w)(h:∀(s:GS) (G:List Value),s.Ok->G.length=c.length->(∀k,k<c.length->(Dd c k).rel s (G.getD k undef)) ->
  Calls P vb G.toArray s.w λe N=>∃v,e=.returned v/\Ext s.w N/\∀j:GS,j.w=N->j.Ok->(∀b k,s.w.heap.size<=b->b<N.heap.size->j.S b k)->GS.Le s j->r.rel j v):Abs P vb c r:=by
 refine⟨u,λs G H K q=>(h s G H K q).mono λe N ⟨v,X,S,C⟩=>⟨v,X,s.grown N,rfl,EM S,?_⟩⟩;exact C _ rfl ((EM S).ok H) (λb k A B=>.inr ⟨A,B⟩) (EM S)
theorem Zm(h:ub.length=1):ub=[ub.getD 0 undef]:=by
 match ub,h with
 |[a],_=>rfl
theorem Yh(h:ub.length=2):ub=[ub.getD 0 undef,ub.getD 1 undef]:=by
 match ub,h with
 |[a,b],_=>rfl
def wD(l:List Nat):D:=⟨λs v=>(slD 335 1 (l.map λx=>[ex (.int .u32 (x:Nat))])).rel s v/\BD l,λh I=>⟨(slD _ _ _).st h.1 I,h.2⟩⟩
theorem DK(h:(wD l).rel s z):Words s.w z l:=by
 obtain⟨⟨A,c,B,C,L,V⟩,f⟩:=h;simp only[List.length_map]at B C V;refine⟨A,c,B,C,L,f,λg=>?_⟩;obtain⟨b,o,m,E⟩:=V g;obtain⟨_,a,K,d,F⟩:=E 0 g;refine⟨b,o,a,K,m,d,λi M=>?_⟩;obtain⟨G,P,N,Q,I⟩:=E i M;rw[d]at Q;cases Q;obtain⟨_,u,t,_,J⟩:=I 0 (by rw[G];omega);have e:Dd ((l.map λx=>[ex (.int .u32 (x:Nat))]).getD i []) 0=ex (.int .u32 (l[i]:Nat)):=by simp[Dd,M]
 rw[e]at J;have J:u=_:=J;rw[Nat.mul_one,Nat.add_zero]at t;rw[t,J]
theorem Il(H:s.Ok)(h:Words s.w z l):(wD l).rel s z:=by
 obtain⟨A,c,B,C,L,f,V⟩:=h;refine⟨⟨A,c,by rw[List.length_map];exact B,by rw[List.length_map];exact C,L,λg=>?_⟩,f⟩;rw[List.length_map]at g;obtain⟨b,o,a,K,m,G,d⟩:=V g;refine⟨b,o,m,λk E=>?_⟩;rw[List.length_map]at E;have e:(l.map λx=>[ex (.int .u32 (x:Nat))]).getD k []=[ex (.int .u32 (l[k]:Nat))]:=by simp[E]
 rw[e];refine⟨rfl,a,K,G,λj F=>?_⟩;obtain rfl:j=0:=by simp at F;omega
 rw[Nat.mul_one,Nat.add_zero];exact⟨H.safe b _ ⟨a,K,G⟩,_,d k E,rfl,rfl⟩
def BW(z:Int):List D:=[ex (.bool (decide (z<0))),wD (Aq z.natAbs)]
def Eh(q:Rat):List D:=[ex (.bool (decide (q.num<0))),wD (Aq q.num.natAbs),ex (.bool (decide ((q.den:Int)<0))),wD (Aq (q.den:Int).natAbs)]
theorem Lx(h:(wD l).rel s z):∃A n c,z=.slice A n c:=by
 obtain⟨A,c,B,_⟩:=h.1;exact⟨A,_,c,B⟩
theorem ag2(h:(AJ [r,vt]).rel s z):∃U C,z=.agg #[U,C]/\r.rel s U/\vt.rel s C:=by
 obtain⟨a,rfl,A,B⟩:=h;obtain⟨U,e,_,N⟩:=B 0 ZbV;obtain⟨C,c,_,g⟩:=B 1 ZbV;refine⟨U,C,?_,N,g⟩;congr 1;refine Array.ext Zdg λi y u=>?_;simp at u
 match i,u with
 |0,_=>exact ZiG
 |1,_=>exact ZiH
theorem ag4{I M t b:D}(h:(AJ [I,M,t,b]).rel s z):∃U C E F,z=.agg #[U,C,E,F]/\I.rel s U/\M.rel s C/\t.rel s E/\b.rel s F:=by
 obtain⟨a,rfl,A,B⟩:=h;obtain⟨U,e,_,N⟩:=B 0 ZbV;obtain⟨C,c,_,g⟩:=B 1 ZbV;obtain⟨E,v,_,R⟩:=B 2 ZbV;obtain⟨F,x,_,G⟩:=B 3 ZbV;refine⟨U,C,E,F,?_,N,g,R,G⟩;congr 1;refine Array.ext Zdg λi y u=>?_;simp at u
 match i,u with
 |0,_=>exact ZiG
 |1,_=>exact ZiH
 |2,_=>exact Option.some.inj ((Array.getElem?_eq_getElem y).symm.trans v)
 |3,_=>exact Option.some.inj ((Array.getElem?_eq_getElem y).symm.trans x)
theorem Vq{l:List Value}(h:(AJ (l.map ex)).rel s z):z=.agg l.toArray:=by
 obtain⟨a,rfl,A,B⟩:=h;congr 1;refine Array.ext Zdg λi y C=>?_;simp at C;obtain⟨u,e,_,r⟩:=B i ZcF;have v:Dd (l.map ex) i=ex l[i]:=by simp[Dd,C]
 rw[v]at r;have r:u=l[i]:=r;rw[Array.getElem?_eq_getElem y]at e;rw[Option.some.inj e,r];simp
theorem A6U{l:List Value}(h:GP l=true):(AJ (l.map ex)).rel s (.agg l.toArray):=by
 refine⟨_,rfl,by simp,λk C=>?_⟩;simp at C;refine⟨l[k],by simp[C],List.all_eq_true.1 h _ ZbV,?_⟩;have v:Dd (l.map ex) k=ex l[k]:=by simp[Dd,C]
 rw[v];rfl
theorem ZI(h:(AJ (Eh vL)).rel s z):∃(b r:Bool) (A G:Option Addr) (n c Y f:Nat),z=.agg #[.bool b,.slice A n c,.bool r,.slice G Y f]/\IsRat s.w (.bool b) (.slice A n c) (.bool r) (.slice G Y f) vL:=by
 obtain⟨U,E,F,I,rfl,g,B,C,L⟩:=ag4 h;obtain rfl:U=_:=g;obtain rfl:F=_:=C;obtain⟨A,n,c,rfl⟩:=Lx B;obtain⟨G,Y,f,rfl⟩:=Lx L;exact⟨_,_,A,G,n,c,Y,f,rfl,⟨rfl,DK B⟩,⟨rfl,DK L⟩⟩
theorem A3s{B r:Bool}{A G:Option Addr}(H:s.Ok)(h:IsRat s.w (.bool B) (.slice A n b) (.bool r) (.slice G T m) vL):(AJ (Eh vL)).rel s (.agg #[.bool B,.slice A n b,.bool r,.slice G T m]):=by
 obtain⟨⟨C,E⟩,L,V⟩:=h;refine⟨_,rfl,rfl,λk F=>?_⟩;have F:k<4:=F
 match k,F with
 |0,_=>exact⟨_,rfl,rfl,C⟩
 |1,_=>exact⟨_,rfl,rfl,Il H E⟩
 |2,_=>exact⟨_,rfl,rfl,L⟩
 |3,_=>exact⟨_,rfl,rfl,Il H V⟩
theorem Dk(h:(AJ (BW i)).rel s z):∃(b:Bool) (A:Option Addr) (n c:Nat),z=.agg #[.bool b,.slice A n c]/\IsInt s.w (.bool b) (.slice A n c) i:=by
 obtain⟨U,C,rfl,g,B⟩:=ag2 h;obtain rfl:U=_:=g;obtain⟨A,n,c,rfl⟩:=Lx B;exact⟨_,A,n,c,rfl,rfl,DK B⟩
theorem Gn{B:Bool}{A:Option Addr}(H:s.Ok)(h:IsInt s.w (.bool B) (.slice A n b) i):(AJ (BW i)).rel s (.agg #[.bool B,.slice A n b]):=by
 obtain⟨C,E⟩:=h;refine⟨_,rfl,rfl,λk F=>?_⟩;have F:k<2:=F
 match k,F with
 |0,_=>exact⟨_,rfl,rfl,C⟩
 |1,_=>exact⟨_,rfl,rfl,Il H E⟩
def Co(a:Nat->Int):List D:=[ex (.int .i64 (a 0)),ex (.int .i64 (a 1)),ex (.int .i64 (a 2)),ex (.int .i64 (a 3)),ex (.int .i64 (a 4)),ex (.int .i64 (a 5)),ex (.int .i64 (a 6)),ex (.int .i64 (a 7))]
theorem CC(h:(AJ (Co vd)).rel s z):z=.agg (c8 vd):=Vq (l:=(c8 vd).toList) h
theorem A3F(a:Nat->Int):(AJ (Co a)).rel s (.agg (c8 a)):=A6U (l:=(c8 a).toList) rfl
theorem Ov(h:n<8):Dd (Co vd) n=ex (.int .i64 (vd n)):=by
 match n,h with
 |0,_=>rfl
 |1,_=>rfl
 |2,_=>rfl
 |3,_=>rfl
 |4,_=>rfl
 |5,_=>rfl
 |6,_=>rfl
 |7,_=>rfl
def Of(t:Tm):List D:=Eh t.c++Co t.m
theorem UF(a:Nat->Int):(Co a).length=8:=rfl
theorem KU(t:Tm):(Of t).length=12:=rfl
theorem A16(t:Tm):(Of t).drop 4=Co t.m:=rfl
theorem RY{a:Array Value}(C:a.size=12)(h:∀k,k<12->∃u,a[k]? = some u/\u.oneCell'=true/\(Dd (Of vO) k).rel s u):TmV s.w a vO:=by
 obtain⟨U,E,_,N⟩:=h 0 ZbK;obtain⟨I,B,_,g⟩:=h 1 ZbK;obtain⟨J,v,_,R⟩:=h 2 ZbK;obtain⟨K,x,_,L⟩:=h 3 ZbK;obtain rfl:U=_:=N;obtain rfl:J=_:=R;obtain⟨A,n,c,rfl⟩:=Lx g;obtain⟨G,Y,f,rfl⟩:=Lx L
 have t:∀i,i<8->a[4+i]? = some (.int .i64 (vO.m i)):=λi M=>by
  obtain⟨u,e,_,r⟩:=h (4+i) ZbK;have v:Dd (Of vO) (4+i)=ex (.int .i64 (vO.m i)):=by rw[<-Ov M,<-A16,Hx]
  rw[v]at r;rw[e];exact congrArg some r
 refine⟨_,_,A,G,n,c,Y,f,?_,⟨rfl,DK g⟩,rfl,DK L⟩;refine Array.ext (by rw[C];rfl) λi y F=>?_;rw[C]at y;refine Option.some.inj ?_;rw[<-Array.getElem?_eq_getElem,<-Array.getElem?_eq_getElem]
 match i,y with
 |0,_=>exact E
 |1,_=>exact B
 |2,_=>exact v
 |3,_=>exact x
 |4,_=>exact t 0 ZbK
 |5,_=>exact t 1 ZbK
 |6,_=>exact t 2 ZbK
 |7,_=>exact t 3 ZbK
 |8,_=>exact t 4 ZbK
 |9,_=>exact t 5 ZbK
 |10,_=>exact t 6 ZbK
 |11,_=>exact t 7 ZbK
def BQ(P:List Tm):D:=slD 114 12 (P.map Of)
theorem A1s(h:n<vi.length):(vi.map Of).getD n []=Of (BJ vi n):=ZiF
theorem ZL(h:(BQ vi).rel s z):A6Z s.w z vi:=by
 obtain⟨A,c,B,C,L,V⟩:=h;simp only[List.length_map]at B C V;refine⟨A,c,B,C,L,λg=>?_⟩;obtain⟨b,o,m,G⟩:=V g;obtain⟨_,a,K,d,I⟩:=G 0 g;refine⟨b,o,a,K,m,d,λk E=>?_⟩;obtain⟨J,P,S,Q,N⟩:=G k E;rw[d]at Q;cases Q;rw[A1s E]at N;refine⟨a.extract (o+k*12) (o+k*12+12),RY (s:=s) ?_ λj F=>?_,λj F=>?_⟩
 .obtain ⟨_, u, e, _⟩:=N 11 (by simp [KU])
  have:=(Array.getElem?_eq_some_iff.1 e).1;exact Zhz
 .obtain ⟨_,u,e,M,R⟩:=N j F
  exact⟨u,by rw[Array.getElem?_extract,if_pos (by have:=(Array.getElem?_eq_some_iff.1 e).1;obtain⟨_,n,O,_⟩:=N 11 (by simp[KU]);have:=(Array.getElem?_eq_some_iff.1 O).1;omega)];exact e,M,R⟩
 .obtain ⟨_, n, O, _⟩:=N 11 (by simp [KU])
  have:=(Array.getElem?_eq_some_iff.1 O).1;rw[Array.getElem?_extract,if_pos ZbK]
theorem A7h(E:r.rel s z)(O:vt.rel s v):(EY [r,vt]).rel s (.tuple #[z,v]):=⟨_,rfl,rfl,λk C=>by
 match k,C with
 |0,_=>exact⟨_,rfl,E⟩
 |1,_=>exact⟨_,rfl,O⟩
 |k+2,C=>exact absurd C ZbV⟩
def DW(R:List (Nat->Int)):D:=slD 36 8 (R.map Co)
theorem A1l(h:n<vx.length):(vx.map Co).getD n []=Co (Nv vx n):=by simp[Nv,List.getD_eq_getElem?_getD,List.getElem?_eq_getElem h]
theorem A1m(h:RowsAt .i64 t s.w z vx)(G:∀b o,(∃n c,z=.slice (some ⟨b,o,none⟩) n c)->∀k,s.S b k):(slD t 8 (vx.map Co)).rel s z:=by
 obtain⟨A,c,B,C,L,V⟩:=h;refine⟨A,c,by rw[List.length_map];exact B,by rw[List.length_map];exact C,L,λg=>?_⟩;rw[List.length_map]at g;obtain⟨b,o,a,K,m,F,d⟩:=V g;subst m;refine⟨b,o,rfl,λk E=>?_⟩;rw[List.length_map]at E;rw[A1l E];refine⟨rfl,a,K,F,λj e=>⟨G b o ⟨_,_,B⟩ _,_,d k j E e,rfl,?_⟩⟩;rw[Ov e];rfl
theorem LF(h:OwnRows 36 n w z vx)(W:s.w=w)(j:∀b k,n<=b->b<w.heap.size->s.S b k):(DW vx).rel s z:=by
 subst W;refine A1m h.rows λb o ⟨A,c,q⟩ k=>?_;obtain⟨B,L⟩:=h;rcases L with⟨e,_⟩ | ⟨g,cap,cur,e,h5,h6,_⟩
 .rw [e]at q;cases q
 .rw [e]at q
  cases q;exact j _ k h5 (Bm h6)
theorem Ud(h:(AJ (Of vO)).rel s z):∃(b r:Bool) (A G:Option Addr) (n c Y f:Nat),z=.agg (tmc b r A G n c Y f vO.m)/\IsRat s.w (.bool b) (.slice A n c) (.bool r) (.slice G Y f) vO.c:=by
 obtain⟨a,rfl,B,C⟩:=h;obtain⟨b,r,A,G,n,c,Y,f,rfl,L⟩:=RY (s:=s) B C;exact⟨b,r,A,G,n,c,Y,f,rfl,L⟩
theorem Nk(z:Int):Abs Tryz.prog 238 [AJ (BW z)] (ex (.int .i64 z.sign)):=by
 refine Bw (Ag Tryz.func238 ZbM ZbM) λs G H K q=>?_;rw[Zm K];obtain⟨B,w,C,m,A,g⟩:=Dk (q 0 ZbV);rw[A];exact(A0n B w C m z _ g).mono λe N ⟨X,S⟩=>⟨_,X,S,λj W O _ _=>rfl⟩
theorem VL(x y:Int)(i:(Aq x.natAbs).length<=4398046511104)(b:(Aq y.natAbs).length<=4398046511104):Abs Tryz.prog 215 [AJ (BW x),AJ (BW y)] (AJ (BW (x*y))):=by
 refine Bw (Ag Tryz.func215 ZbM ZbM) λs G H K q=>?_;rw[Yh K];obtain⟨I,w,L,E,F,g⟩:=Dk (q 0 ZbV);obtain⟨M,Q,J,B,c,A⟩:=Dk (q 1 ZbV);rw[F,c];exact(A2p I M w Q L E J B x y _ g A i b).mono λe N ⟨y,Y,m,k,X,C,S⟩=>⟨_,X,S,λj W O _ _=>by subst W;exact Gn O C⟩
theorem PI(a b:Nat->Int):Abs Tryz.prog 297 [AJ (Co a),AJ (Co b)] (ex (.int .i64 (GT a b))):=by
 refine Bw (Ag Tryz.func297 ZbM ZbM) λs G H K q=>?_;rw[Yh K];have A:=CC (q 0 ZbV);have c:=CC (q 1 ZbV);rw[A,c];exact(A1M a b _).mono λe N ⟨X,S⟩=>⟨_,X,S,λj W O _ _=>rfl⟩
theorem Fv(a b:Nat->Int):Abs Tryz.prog 229 [AJ (Co a),AJ (Co b)] (ex (.int .i64 (GT a b))):=by
 refine Bw (Ag Tryz.func229 ZbM ZbM) λs G H K q=>?_;rw[Yh K];have A:=CC (q 0 ZbV);have c:=CC (q 1 ZbV);rw[A,c];exact(A0q a b _).mono λe N ⟨X,S⟩=>⟨_,X,S,λj W O _ _=>rfl⟩
theorem A1L(a b:Nat->Int)(A:In8 a 0 65535)(F:In8 b 0 65535)(h:In8 (Cy a b) 0 65535):Abs Tryz.prog 323 [AJ (Co a),AJ (Co b)] (EY [AJ (Co (Cy a b)),ex (.int .i64 0)]):=by
 refine Bw (Ag Tryz.func323 ZbM ZbM) λs G H K q=>?_;rw[Yh K];have B:=CC (q 0 ZbV);have c:=CC (q 1 ZbV);rw[B,c];exact(ZY a b _ A F h).mono λe N ⟨X,S⟩=>⟨_,X,S,λj W O _ _=>A7h (A3F _) rfl⟩
theorem UI(a:Nat->Int)(h:In8 a (-1000000) 1000000):Abs Tryz.prog 289 [AJ (Co a)] (ex (.int .i64 (DC a 8))):=by
 refine Bw (Ag Tryz.func289 ZbM ZbM) λs G H K q=>?_;rw[Zm K];have A:=CC (q 0 ZbV);rw[A];exact(XW a _ h).mono λe N ⟨X,S⟩=>⟨_,X,S,λj W O _ _=>rfl⟩
theorem Ta(a:Nat->Int):Abs Tryz.prog 299 [AJ (Co a)] (ex (.int .u8 (suppTo a 8))):=by
 refine Bw (Ag Tryz.func299 ZbM ZbM) λs G H K q=>?_;rw[Zm K];have A:=CC (q 0 ZbV);rw[A];exact(Vr a _).mono λe N ⟨X,S⟩=>⟨_,X,S,λj W O _ _=>rfl⟩
theorem JB(a:Nat->Int)(h:In8 a 0 65535):Abs Tryz.prog 298 [AJ (Co a)] (ex (.bool true)):=by
 refine Bw (Ag Tryz.func298 ZbM ZbM) λs G H K q=>?_;rw[Zm K];have A:=CC (q 0 ZbV);rw[A];exact(NA a _ h).mono λe N ⟨X,S⟩=>⟨_,X,S,λj W O _ _=>rfl⟩
theorem UH(a:Nat->Int)(h:¬In8 a 0 65535):Abs Tryz.prog 298 [AJ (Co a)] (ex (.bool false)):=by
 refine Bw (Ag Tryz.func298 ZbM ZbM) λs G H K q=>?_;rw[Zm K];have A:=CC (q 0 ZbV);rw[A];exact(SY a _ h).mono λe N ⟨X,S⟩=>⟨_,X,S,λj W O _ _=>rfl⟩
theorem A2x:Abs Tryz.prog 129 [] (DW []):=by
 refine Bw (Ag Tryz.func129 ZbM ZbM) λs G H K q=>?_;obtain rfl:G=[]:=List.eq_nil_of_length_eq_zero K;exact(A2w s.w).mono λe N ⟨A,c,X,i,S⟩=>⟨_,X,S,λj W O B _=>LF i W B⟩
theorem VC:Abs Tryz.prog 130 [] (DW [BM 255]):=by
 refine Bw (Ag Tryz.func130 ZbM ZbM) λs G H K q=>?_;obtain rfl:G=[]:=List.eq_nil_of_length_eq_zero K;exact(NM s.w).mono λe N ⟨A,c,X,i,S⟩=>⟨_,X,S,λj W O B _=>LF i W B⟩
theorem Ma:Abs Tryz.prog 131 [] (DW revRows):=by
 refine Bw (Ag Tryz.func131 ZbM ZbM) λs G H K q=>?_;obtain rfl:G=[]:=List.eq_nil_of_length_eq_zero K;exact(LY s.w).mono λe N ⟨A,c,X,i,S⟩=>⟨_,X,S,λj W O B _=>LF i W B⟩
theorem MZ(m:Nat)(t:m<256):Abs Tryz.prog 132 [ex (.int .u8 m)] (DW (BM m::revRows)):=by
 refine Bw (Ag Tryz.func132 ZbM ZbM) λs G H K q=>?_;rw[Zm K];have C:G.getD 0 undef=.int .u8 m:=q 0 ZbV;rw[C];exact(MY m _ t).mono λe N ⟨A,c,X,i,S⟩=>⟨_,X,S,λj W O B _=>LF i W B⟩
theorem Rh(t u:Tm):Abs Tryz.prog 50 [AJ (Of t),AJ (Of u)] (ex (.bool (tmB t u))):=by
 refine Bw (Ag Tryz.func50 ZbM ZbM) λs G H K q=>?_;rw[Yh K];obtain⟨E,J,w,Z,F,m,a,b,C,g⟩:=Ud (q 0 ZbV);obtain⟨k,M,I,n,Y,B,v,L,c,A⟩:=Ud (q 1 ZbV);rw[C,c];exact(Rg E J w Z F m a b k M I n Y B v L t u _ g A).mono λe N ⟨X,S⟩=>⟨_,X,S,λj W O _ _=>rfl⟩
theorem A3W:(c.map AV.d)[n]? = if n<c.length then some (.d (Dd c n))else none:=by
 rw[List.getElem?_map];split
 .rename_i h
  simp[Dd,h]
 .rename_i h
  simp[List.getElem?_eq_none (Nat.le_of_not_lt h)]
section
variable {P:Program} {hp:List Ow} {o:Oper} {arg:Operand->AV}
theorem Quiet.succ{a:Nat}(C:o.op=.binOp .add t x y U)(E:arg x=.d (ex (.int .i64 (a:Nat))))(O:arg y=.d (ex (.int .i64 1)))(A:(a:Int)<9223372036854775807):Quiet P hp o arg (.d (ex (.int .i64 ((a+1:Nat):Int)))):=
 Quiet.add C E O ZbK ZbK
theorem Quiet.quo(C:o.op=.binOp .quo t x y U)(E:arg x=.d (ex (.int .i64 i)))(O:arg y=.d (ex (.int .i64 j)))(g:0<=i)(A:i<=9223372036854775807)(F:0<j):Quiet P hp o arg (.d (ex (.int .i64 (i/j)))):=
 Cz C E O λw=>by
  have B:i/j<=i:=Int.ediv_le_self j g;have L:0<=i/j:=Int.ediv_nonneg g ZbK;have V:i.tdiv j=i/j:=Int.tdiv_eq_ediv_of_nonneg g;have e:IntKind.i64.wrap (i/j)=i/j:=IntWalk.i64_in _ ZbK;have z:j≠0:=by omega
  simp[eqGuard,binOp,Op.intDiv,z,V,e]
theorem Quiet.rem{k:IntKind}(C:o.op=.binOp .rem t x y U)(E:arg x=.d (ex (.int k i)))(O:arg y=.d (ex (.int k j)))(g:0<=i)(F:0<j):Quiet P hp o arg (.d (ex (.int k (i%j)))):=
 Cz C E O λw=>by
  have V:i.tmod j=i%j:=Int.tmod_eq_emod_of_nonneg g;have z:j≠0:=by omega
  simp[eqGuard,binOp,Op.intDiv,z,V]
theorem Xu{k:IntKind}(C:o.op=.binOp .rem t x y U)(E:arg x=.d (ex (.int k i)))(O:arg y=.d (ex (.int k j)))(F:j≠0):Quiet P hp o arg (.d (ex (.int k (i.tmod j)))):=
 Cz C E O λw=>by simp[eqGuard,binOp,Op.intDiv,F]
theorem Quiet.max{k:IntKind}(F:o.op=.call { callee:=.builtin .max,args:=#[x,y],argTypes:=vr })(E:arg x=.d (ex (.int k i)))(O:arg y=.d (ex (.int k j))):Quiet P hp o arg (.d (ex (.int k (Max.max i j)))):=by
 refine⟨λbase s W C H l Z h=>?_⟩;have A:=h x Zdn;have B:=h y Zdn;rw[E]at A;rw[O]at B;have c:C x=.int k i:=A;have v:C y=.int k j:=B;refine BO (v:=.int k (Max.max i j)) ?_ ⟨GS.Le.refl s,rfl⟩
 have G:(if j>i then j else i)=Max.max i j:=by
  rw[Int.max_def];by_cases h:i<=j
  .rw [if_pos h];split<;>omega
  .rw [if_neg h,if_neg ZbK]
 simp only[execOp,F,resolve,invoke,builtin,Sem.run_bind,Sem.run_pure,Result.andThen_ok,List.map_toArray,List.map_cons,List.map_nil,c,v,Builtin.max_,List.foldlM_cons,List.foldlM_nil,Builtin.max2,G]
theorem Quiet.min{k:IntKind}{a b:Int}(F:o.op=.call { callee:=.builtin .min,args:=#[x,y],argTypes:=vr })(E:arg x=.d (ex (.int k a)))(O:arg y=.d (ex (.int k b))):Quiet P hp o arg (.d (ex (.int k (Min.min a b)))):=by
 refine⟨λbase s W C H l Z h=>?_⟩;have A:=h x Zdn;have B:=h y Zdn;rw[E]at A;rw[O]at B;have c:C x=.int k a:=A;have v:C y=.int k b:=B;refine BO (v:=.int k (Min.min a b)) ?_ ⟨GS.Le.refl s,rfl⟩
 have G:(if b<a then b else a)=Min.min a b:=by
  rw[Int.min_def];by_cases h:a<=b
  .rw [if_pos h,if_neg ZbK]
  .rw [if_neg h];split<;>omega
 simp only[execOp,F,resolve,invoke,builtin,Sem.run_bind,Sem.run_pure,Result.andThen_ok,List.map_toArray,List.map_cons,List.map_nil,c,v,Builtin.min_,List.foldlM_cons,List.foldlM_nil,Builtin.min2,G]
theorem A0A(C:o.op=.binOp .or t x y U)(E:arg x=.d (ex (.int .u8 (n:Nat))))(O:arg y=.d (ex (.int .u8 (b:Nat))))(s:n<256)(F:b<256):Quiet P hp o arg (.d (ex (.int .u8 ((n ||| b:Nat):Int)))):=
 Cz C E O λw=>by
  have A:(BitVec.ofInt 8 (n:Int) ||| BitVec.ofInt 8 (b:Int)).toNat=n ||| b:=by
   rw[BitVec.toNat_or,BitVec.ofInt_natCast,BitVec.ofInt_natCast,BitVec.toNat_ofNat,BitVec.toNat_ofNat,Nat.mod_eq_of_lt s,Nat.mod_eq_of_lt F]
  have B:n ||| b<256:=Nat.or_lt_two_pow (n:=8) s F
  have L:IntKind.u8.wrap ((n ||| b:Nat):Int)=((n ||| b:Nat):Int):=by
   unfold IntKind.wrap;have:(((n ||| b:Nat):Int))%(2^IntKind.u8.bits:Int)=((n ||| b:Nat):Int):=Int.emod_eq_of_lt ZbK (by show _<(256:Int);omega);simp[this,IntKind.signed]
  have V:(BitVec.ofInt IntKind.u8.bits (n:Int) ||| BitVec.ofInt IntKind.u8.bits (b:Int)).toNat=n ||| b:=A
  have m:n%2^IntKind.u8.bits=n:=Nat.mod_eq_of_lt s;have z:b%2^IntKind.u8.bits=b:=Nat.mod_eq_of_lt F;simp[eqGuard,binOp,Op.intBits,m,z,L]
theorem TC[Inhabited e]{f:IntKind}(B:o.op=.indexAddr t x y)(E:GG hp (arg x)=some (slD k g (vu.map vF)))(O:arg y=.d (ex (.int f (vk:Nat))))(J:Tab P t (.slice n) b T z)(X:Tab P n d m a v)(F:m=g)(C:vk<vu.length):Quiet P hp o arg (.d (Fb k (vF (vu.getD vk default)))):=by
 have A:=Quiet.index (P:=P) (hp:=hp) B E O J X F ZbK Zhz
 have c:(vu.map vF).getD ((vk:Nat):Int).toNat []=vF (vu.getD vk default):=by
  show(vu.map vF).getD vk []=_;simp[List.getD_eq_getElem?_getD,C]
 rwa [c]at A
theorem TA(C:o.op=.load t x)(E:arg x=.d (Fb T c))(J:Tab P t d n b z)(Z:Ej d=true)(i:c.length=n):Quiet P hp o arg (.d (AJ c)):=by
 have:=JV (P:=P) (hp:=hp) C E J Z ZbK;rwa [<-i,List.take_length]at this
theorem Qq{hp:List Ow}:∀(l:List D),Xd hp (l.map .d)=some l
 |[]=>rfl
 |x::l=>by simp only[List.map_cons,Xd,GG,Qq l]
theorem VG(C:o.op=.load t x)(E:arg x=.ptr m a)(l:hp[m]? = some (.var T (c.map .d)))(J:Tab P t d n b z)(Z:Ej d=true)(i:Nat.ble (a+n) c.length=true):Quiet P hp o arg (.d (AJ ((c.drop a).take n))):=
 VF C E l J Z (by rw[<-List.map_drop,<-List.map_take];exact Qq _) (by have:=Nat.le_of_ble_eq_true i;simpa using this)
theorem Mg(C:o.op=.load t x)(E:arg x=.ptr m a)(l:hp[m]? = some (.var T (c.map .d)))(J:Tab P t d n b z)(Z:Ej d=false)(i:a<c.length):Quiet P hp o arg (.d (Dd c a)):=
 Me C E l J Z (by rw[A3W,if_pos i])
end
section
variable {P:Program} {s0:An} {n:Nat} {ops:Array Oper} {Q:Exit->AS->Prop} {rest:List Oper} {o:Oper} {σ:AS}
theorem Yb{b id m:Nat}(C:o.op=.store t x y)(I:o.guard=none)(i:o.dst=none)(E:σ.arg x=.ptr id 0)(O:σ.arg y=.d (AJ c))(l:σ.hp[id]? = some (.var U u))(J:Tab P t d m b z)(A:c.length=m)(B:u.length=m)
  (h:AWl P s0 n ops Q rest { fr:=σ.fr,hp:=σ.hp.set id (.var U (c.map .d)) }):AWl P s0 n ops Q (o::rest) σ:=by
 refine QQ C I i E O l J A ZbK ?_
 have:II u 0 (c.map .d)=c.map .d:=by
  unfold II;rw[List.take_zero,List.nil_append,List.drop_eq_nil_of_le Zhz,List.append_nil]
 rw[this];exact h
theorem QP{b id m off:Nat}(C:o.op=.store t x y)(I:o.guard=none)(i:o.dst=none)(E:σ.arg x=.ptr id off)(O:σ.arg y=.d (AJ vn))(l:σ.hp[id]? = some (.var U (c.map .d)))(J:Tab P t d m b z)(A:vn.length=m)(B:Nat.ble (off+m) c.length=true)
  (h:AWl P s0 n ops Q rest { fr:=σ.fr,hp:=σ.hp.set id (.var U ((Rx c off vn).map .d)) }):AWl P s0 n ops Q (o::rest) σ:=by
 refine QQ C I i E O l J A (by have:=Nat.le_of_ble_eq_true B;simpa using this) ?_;have:II (c.map .d) off (vn.map .d)=(Rx c off vn).map .d:=by simp[II,Rx]
 rw[this];exact h
theorem NQ{b id off:Nat}(C:o.op=.store t x y)(I:o.guard=none)(i:o.dst=none)(E:σ.arg x=.ptr id off)(O:σ.arg y=.d r)(l:σ.hp[id]? = some (.var U (c.map .d)))(J:Tab P t d 1 b z)(A:One σ.hp (.d r))(m:off<c.length)
  (h:AWl P s0 n ops Q rest { fr:=σ.fr,hp:=σ.hp.set id (.var U ((c.set off r).map .d)) }):AWl P s0 n ops Q (o::rest) σ:=by
 refine QR C I i E O l J A (by simpa using m) ?_;have:(c.map AV.d).set off (.d r)=(c.set off r).map .d:=by rw[List.map_set]
 rw[this];exact h
theorem Yg{m b:Nat}(C:o.op=.alloc t)(I:o.guard=none)(J:Tab P t d m b z)(B:Nat.beq t 335=false)(A:GP z.cells.toList=true)(Z:TU o.dst n=true)(h:AWl P s0 n ops Q rest (σ.new o.dst (.ptr σ.hp.length 0) (.var t ((z.cells.toList.map ex).map .d)))):AWl P s0 n ops Q (o::rest) σ:=by
 refine AWl.alloc C I J (Nat.ne_of_beq_eq_false B) A Z ?_;have:Wf z.cells.toList=(z.cells.toList.map ex).map .d:=by simp[Wf]
 rw[this];exact h
end
def A7z(Y:List (Nat×AV)):Operand->Option AV
 |.tmp t=>BV Y t
 |.const v=>some (.d (ex v))
 |.global g=>some (.d (ex (.pointer (some ⟨g,0,none⟩))))
 |.func f=>some (.d (ex (.func (.func f) #[] #[])))
theorem ao(A:A7z vf x=some h):AS.arg ⟨vf,H⟩ x=h:=by
 cases x with
 |tmp t=>
  show(BV vf t).getD (.d Cs)=h;have A:BV vf t=some h:=A;rw[A];rfl
 |const v=>exact ZiI
 |global g=>exact ZiI
 |func f=>exact ZiI
theorem Xv{o:Oper}(C:o.op=.call { callee:=.builtin .len,args:=#[x],argTypes:=#[t] })(E:GG H (vz x)=some (slD m a (vu.map vF)))(J:Tab P t (.slice n) b T z):Quiet P H o vz (.d (ex (.int .i64 (vu.length:Nat)))):=by
 have:=Quiet.len (P:=P) C E J;rwa [List.length_map]at this
def NF:List (Nat×Nat)->Nat->Option Nat
 |[],_=>none
 |p::r,t=>bif Nat.beq p.1 t then some p.2 else NF r t
theorem PR:∀{n:List (Nat×Nat)} {t j:Nat},NF n t=some j->∃p,n.find? (λp=>p.1==t)=some p/\p.2=j
 |[],_,_,h=>by cases h
 |p::r,t,j,h=>by
  unfold NF at h
  cases F:Nat.beq p.1 t with
  |true=>rw[F]at h;cases h;exact⟨p,by rw[List.find?_cons,Nat.eq_of_beq_eq_true F];simp,rfl⟩
  |false=>
   rw[F]at h;obtain⟨q,A,B⟩:=PR h;refine⟨q,?_,B⟩;rw[List.find?_cons];have:(p.1==t)=false:=by simpa using Nat.ne_of_beq_eq_false F
   rw[this];exact A
theorem PS:∀{n:List (Nat×Nat)} {t:Nat},NF n t=none->n.find? (λp=>p.1==t)=none
 |[],_,_=>rfl
 |p::r,t,h=>by
  unfold NF at h
  cases F:Nat.beq p.1 t with
  |true=>exact ZhZ
  |false=>
   rw[F]at h;rw[List.find?_cons];have:(p.1==t)=false:=by simpa using Nat.ne_of_beq_eq_false F
   rw[this];exact PS h
def Hv:Option HR->Option AV
 |some (.av r)=>some r
 |_=>none
def A7y(Y:List (Nat×AV))(X:List HR)(n:List (Nat×Nat)):Operand->Option AV
 |.tmp t=>match NF n t with
  |some j=>Hv X[j]?
  |none=>BV Y t
 |.const v=>some (.d (ex v))
 |.global _=>none
 |.func f=>some (.d (ex (.func (.func f) #[] #[])))
theorem ah{fr:List (Nat×AV)}{hp:List Ow}{rs:List HR}{es:List (Nat×Nat)}{x:Operand}{av:AV}(h:A7y fr rs es x=some av):Eu ⟨fr,hp⟩ rs es x=av:=by
 cases x with
 | tmp t=>
  replace h:(match NF es t with
   | some j=>Hv rs[j]?
   | none=>BV fr t)=some av:=h
  show (match es.find? (λp=>p.1==t) with
   | some p=>match rs[p.2]? with
    | some h=>h.val
    | none=>.d Cs
   | none=>(BV fr t).getD (.d Cs))=av
  cases hf:NF es t with
  | some j=>
   rw [hf] at h
   replace h:Hv rs[j]? = some av:=h
   obtain ⟨p,h1,h2⟩:=PR hf
   simp only [h1,h2]
   cases hr:rs[j]? with
   | none=>rw [hr] at h;cases h
   | some r=>
    rw [hr] at h
    cases r with
    | av r=>cases h;rfl
    | new T cs=>cases h
  | none=>
   rw [hf] at h
   simp only [PS hf]
   have h:BV fr t=some av:=h
   rw [h];rfl
 | const v=>exact Option.some.inj h
 | global g=>cases h
 | func f=>exact Option.some.inj h
def Fy:List Ow->Ow->Option (List Ow)
 |[],x=>some [x]
 |o::l,x=>match Fy l x with
  |some r=>some (o::r)
  |none=>none
theorem EF:∀{l:List Ow} {x:Ow} {r:List Ow},Fy l x=some r->r=l++[x]
 |[],x,r,h=>by cases h;rfl
 |o::l,x,r,h=>by
  unfold Fy at h;split at h
  .rename_i b a
   cases h;rw[EF a];rfl
  .cases h
def Ht:List Ow->Option Nat
 |[]=>some 0
 |_::l=>match Ht l with
  |some k=>some (k+1)
  |none=>none
theorem Fi:∀{l:List Ow} {k:Nat},Ht l=some k->k=l.length
 |[],k,h=>by cases h;rfl
 |o::l,k,h=>by
  unfold Ht at h;split at h
  .rename_i b a
   cases h;rw[Fi a];rfl
  .cases h
def FK:List Ow->Nat->Ow->Option (List Ow)
 |[],_,_=>none
 |_::l,0,x=>some (x::l)
 |o::l,i+1,x=>match FK l i x with
  |some r=>some (o::r)
  |none=>none
theorem Ey:∀{l:List Ow} {i:Nat} {x:Ow} {r:List Ow},FK l i x=some r->r=l.set i x
 |[],_,_,_,h=>by cases h
 |_::l,0,x,r,h=>by cases h;rfl
 |o::l,i+1,x,r,h=>by
  unfold FK at h;split at h
  .rename_i b a
   cases h;rw[Ey a];rfl
  .cases h
def exO:List Value->Option (List D)
 |[]=>some []
 |v::l=>match exO l with
  |some r=>some (ex v::r)
  |none=>none
theorem Qa:∀{l:List Value} {r:List D},exO l=some r->r=l.map ex
 |[],r,h=>by cases h;rfl
 |v::l,r,h=>by
  unfold exO at h;split at h
  .rename_i b a
   cases h;rw[Qa a];rfl
  .cases h
def Ns:Nat->List D->Option (List D)
 |0,_=>some []
 |_+1,[]=>none
 |n+1,d::l=>match Ns n l with
  |some r=>some (d::r)
  |none=>none
theorem Lz:∀{n:Nat} {l r:List D},Ns n l=some r->r=l.take n/\n<=l.length
 |0,l,r,h=>by cases h;exact⟨rfl,Nat.zero_le _⟩
 |n+1,[],r,h=>by cases h
 |n+1,d::l,r,h=>by
  unfold Ns at h;split at h
  .rename_i b a
   cases h;obtain⟨A,B⟩:=Lz a;exact⟨by rw[A];rfl,by simpa using B⟩
  .cases h
def A1b:Nat->Nat->List D->Option (List D)
 |0,n,l=>Ns n l
 |_+1,_,[]=>none
 |o+1,n,_::l=>A1b o n l
theorem Yo:∀{o n:Nat} {l r:List D},A1b o n l=some r->r=(l.drop o).take n/\o+n<=l.length
 |0,n,l,r,h=>by
  obtain⟨A,B⟩:=Lz (n:=n) (l:=l) (r:=r) (by cases l<;>exact h);exact⟨A,by omega⟩
 |o+1,n,[],r,h=>by cases h
 |o+1,n,d::l,r,h=>by
  obtain⟨A,B⟩:=Yo (o:=o) ZdM;exact⟨A,by simp;omega⟩
def atO:Nat->List D->Option D
 |_,[]=>none
 |0,d::_=>some d
 |i+1,_::l=>atO i l
theorem Tp:∀{i:Nat} {l:List D} {d:D},atO i l=some d->d=Dd l i/\i<l.length
 |i,[],d,h=>by cases i<;>cases h
 |0,x::l,d,h=>by cases h;exact⟨rfl,by simp⟩
 |i+1,x::l,d,h=>by
  obtain⟨A,B⟩:=Tp (i:=i) ZdM;exact⟨A,by simpa using B⟩
def A1q:List D->List D->Option (List D)
 |[],r=>some r
 |d::l,r=>match A1q l r with
  |some x=>some (d::x)
  |none=>none
theorem YE:∀{l r x:List D},A1q l r=some x->x=l++r
 |[],r,x,h=>by cases h;rfl
 |d::l,r,x,h=>by
  unfold A1q at h;split at h
  .rename_i E a
   cases h;rw[YE a];rfl
  .cases h
def NG:Nat->List D->Option (List D)
 |0,l=>some l
 |_+1,[]=>none
 |n+1,_::l=>NG n l
theorem LL:∀{n:Nat} {l r:List D},NG n l=some r->r=l.drop n/\n<=l.length
 |0,l,r,h=>by cases l<;>(cases h;exact⟨rfl,Nat.zero_le _⟩)
 |n+1,[],r,h=>by cases h
 |n+1,d::l,r,h=>by
  obtain⟨A,B⟩:=LL (n:=n) ZdM;exact⟨A,by simpa using B⟩
def SA:List D->Nat->List D->Option (List D)
 |l,0,n=>match NG n.length l with
  |some r=>A1q n r
  |none=>none
 |[],_+1,_=>none
 |d::l,o+1,n=>match SA l o n with
  |some r=>some (d::r)
  |none=>none
theorem Oi:∀{l:List D} {o:Nat} {n r:List D},SA l o n=some r->r=Rx l o n/\o+n.length<=l.length
 |l,0,n,r,h=>by
  have a:(match NG n.length l with
   |some r=>A1q n r
   |none=>none)=some r:=by cases l<;>exact h
  split at a
  .rename_i b A
   obtain⟨B,L⟩:=LL A;rw[YE a,B];exact⟨by simp[Rx],by omega⟩
  .cases a
 |[],o+1,n,r,h=>by cases h
 |d::l,o+1,n,r,h=>by
  unfold SA at h;split at h
  .rename_i b A
   cases h;obtain⟨B,L⟩:=Oi A;rw[B];refine⟨?_,by simp;omega⟩;simp only[Rx,List.take_succ_cons,List.cons_append];rw[show o+1+n.length=(o+n.length)+1 by omega,List.drop_succ_cons]
  .cases h
def Iz(id:Nat)(x:D):List (Nat×AV)->Option (List (Nat×AV))
 |[]=>some []
 |(t,.own j)::l=>match Iz id x l with
  |some r=>bif Nat.beq j id then some ((t,.d x)::r)else some ((t,.own j)::r)
  |none=>none
 |(t,.fn f N)::l=>match Iz id x l with
  |some r=>bif N.contains id then some ((t,.d Cs)::r)else some ((t,.fn f N)::r)
  |none=>none
 |(t,U)::l=>match Iz id x l with
  |some r=>some ((t,U)::r)
  |none=>none
theorem Qc{id:Nat}{x:D}:∀{l r:List (Nat×AV)},Iz id x l=some r->r=l.map λp=>(p.1,down id x p.2)
 |[],r,h=>by cases h;rfl
 |(t,U)::l,r,h=>by
  have key:∃b,Iz id x l=some b/\r=(t,down id x U)::b:=by
   cases U with
   |d y=>
    replace h:(match Iz id x l with
     |some r=>some ((t,.d y)::r)
     |none=>none)=some r:=h
    split at h
    .rename_i b a;cases h;exact⟨b,a,rfl⟩
    .cases h
   |fn f N=>
    replace h:(match Iz id x l with
     |some r=>bif N.contains id then some ((t,.d Cs)::r)else some ((t,.fn f N)::r)
     |none=>none)=some r:=h
    split at h
    .rename_i b a
     cases F:N.contains id with
     |true=>rw[F]at h;cases h;exact⟨b,a,by simp only[down,F];rfl⟩
     |false=>rw[F]at h;cases h;exact⟨b,a,by simp only[down,F];rfl⟩
    .cases h
   |ptr i o=>
    replace h:(match Iz id x l with
     |some r=>some ((t,.ptr i o)::r)
     |none=>none)=some r:=h
    split at h
    .rename_i b a;cases h;exact⟨b,a,rfl⟩
    .cases h
   |own j=>
    replace h:(match Iz id x l with
     |some r=>bif Nat.beq j id then some ((t,.d x)::r)else some ((t,.own j)::r)
     |none=>none)=some r:=h
    split at h
    .rename_i b a
     cases F:Nat.beq j id with
     |true=>rw[F]at h;cases h;exact⟨b,a,by simp[down,F]⟩
     |false=>rw[F]at h;cases h;exact⟨b,a,by simp[down,F]⟩
    .cases h
  obtain⟨b,A,rfl⟩:=key;rw[Qc A];rfl
def Fl(id:Nat):List AV->Bool
 |[]=>true
 |.own j::l=>bif Nat.beq j id then false else Fl id l
 |.fn _ N::l=>bif N.contains id then false else Fl id l
 |_::l=>Fl id l
def GO(id:Nat):List Ow->Bool
 |[]=>true
 |.var _ c::l=>Fl id c&&GO id l
 |.pin c::l=>Fl id (c.map (·.2))&&GO id l
 |_::l=>GO id l
theorem Fq{id:Nat}{x:D}:∀{l:List AV},Fl id l=true->l.map (down id x)=l
 |[],_=>rfl
 |.d y::l,h=>by rw[List.map_cons,Fq ZdM];rfl
 |.ptr _ _::l,h=>by rw[List.map_cons,Fq ZdM];rfl
 |.own j::l,h=>by
  replace h:(bif Nat.beq j id then false else Fl id l)=true:=h
  cases F:Nat.beq j id with
  |true=>exact ZhZ
  |false=>rw[F]at h;rw[List.map_cons,Fq ZdM];exact Zhn
 |.fn f N::l,h=>by
  replace h:(bif N.contains id then false else Fl id l)=true:=h
  cases F:N.contains id with
  |true=>exact ZhZ
  |false=>rw[F]at h;rw[List.map_cons,Fq ZdM];exact Zhn
theorem Pr{x:D}:∀{l:List (Value×AV)},Fl n (l.map (·.2))=true->(l.map λp=>(p.1,down n x p.2))=l:=λ{l} h=>by
 have A:=Fq (x:=x) h;apply List.ext_getElem?;intro k;have B:=congrArg (λy=>y[k]?) A;simp only[List.getElem?_map]at B ⊢
 cases C:l[k]? with
 |none=>rfl
 |some p=>
  rw[C]at B;simp only[Option.map_some,Option.some.injEq]at B ⊢;rw[B]
theorem EQ{id:Nat}{x:D}:∀{l:List Ow},GO id l=true->l.map (Ow.mapA (down id x))=l
 |[],_=>rfl
 |.var T c::l,h=>by
  simp only[GO,Bool.and_eq_true]at h;rw[List.map_cons,EQ h.2];simp only[Ow.mapA,Fq h.1]
 |.pin c::l,h=>by
  simp only[GO,Bool.and_eq_true]at h;rw[List.map_cons,EQ h.2];simp only[Ow.mapA,Pr h.1]
 |.dead::l,h=>by rw[List.map_cons,EQ ZdM];rfl
 |.row _ _ _::l,h=>by rw[List.map_cons,EQ ZdM];rfl
 |.obj _::l,h=>by rw[List.map_cons,EQ ZdM];rfl
theorem Nx{id:Nat}:∀l:List D,Fl id (l.map .d)=true
 |[]=>rfl
 |_::l=>Nx (id:=id) l
def PlainHp(id:Nat):List Ow->Prop
 |[]=>True
 |.var _ c::l=>Fl id c=true/\PlainHp id l
 |.pin c::l=>Fl id (c.map (·.2))=true/\PlainHp id l
 |_::l=>PlainHp id l
theorem PlainHp.ok{id:Nat}:∀{l:List Ow},PlainHp id l->GO id l=true
 |[],_=>rfl
 |.var T c::l,h=>by simp only[GO,Bool.and_eq_true];exact⟨h.1,PlainHp.ok h.2⟩
 |.pin c::l,h=>by simp only[GO,Bool.and_eq_true];exact⟨h.1,PlainHp.ok h.2⟩
 |.dead::l,h=>PlainHp.ok (l:=l) h
 |.row _ _ _::l,h=>PlainHp.ok (l:=l) h
 |.obj _::l,h=>PlainHp.ok (l:=l) h
section
variable {id:Nat} {l:List Ow}
theorem PlainHp.nil:PlainHp id []:=trivial
theorem PlainHp.var(h:PlainHp id l):PlainHp id (.var t (c.map .d)::l):=⟨Nx c,h⟩
theorem PlainHp.varA{c:List AV}(I:Fl id c=true)(h:PlainHp id l):PlainHp id (.var t c::l):=⟨I,h⟩
theorem PlainHp.pin{c:List (Value×AV)}(I:Fl id (c.map (·.2))=true)(h:PlainHp id l):PlainHp id (.pin c::l):=⟨I,h⟩
theorem PlainHp.row{T sz:Nat}{r:List (List D)}(h:PlainHp id l):PlainHp id (.row T sz r::l):=h
end
def Tq:List (Nat×AV)->List Ow->Nat->List Oper->List HR->Option AS
 |Y,G,0,_,_=>some ⟨Y,G⟩
 |Y,G,m+1,o::L,.av r::X=>match o.dst with
  |some d=>Tq ((d,r)::Y) G m L X
  |none=>Tq Y G m L X
 |Y,G,m+1,o::L,.new T a::X=>match o.dst,Ht G,exO a with
  |some d,some k,some c=>match Fy G (.var T (c.map .d))with
   |some u=>Tq ((d,.ptr k 0)::Y) u m L X
   |none=>none
  |_,_,_=>none
 |_,_,_,_,_=>none
theorem OA:∀{m:Nat} {Y:List (Nat×AV)} {G:List Ow} {L:List Oper} {X:List HR} {q:AS},Tq Y G m L X=some q->X.length=m->q=AS.aft ⟨Y,G⟩ (L.take m) X
 |0,Y,G,L,X,q,h,K=>by
  obtain rfl:X=[]:=List.eq_nil_of_length_eq_zero K;cases L<;>(cases h;rfl)
 |m+1,Y,G,[],[],q,h,K=>by cases K
 |m+1,Y,G,[],r::X,q,h,K=>by cases r<;>cases h
 |m+1,Y,G,o::L,[],q,h,K=>by cases K
 |m+1,Y,G,o::L,.av r::X,q,h,K=>by
  rw[List.take_succ_cons];have K:X.length=m:=by simpa using K
  unfold Tq at h
  cases Z:o.dst with
  |some d=>
   rw[Z]at h;have:=OA h K;rw[this];simp only[AS.aft,AS.put,Z]
  |none=>
   rw[Z]at h;have:=OA h K;rw[this];simp only[AS.aft,AS.put,Z]
 |m+1,Y,G,o::L,.new T a::X,q,h,K=>by
  rw[List.take_succ_cons];have K:X.length=m:=by simpa using K
  unfold Tq at h;split at h
  .rename_i d k c Z C I
   split at h
   .rename_i u f
    have:=OA h K;rw[this];have A:=EF f;have v:=Fi C;have x:=Qa I;subst A;subst v;subst x;simp only[AS.aft,AS.new,AS.put,Z];congr 3;simp[Wf]
   .cases h
  .cases h
section
variable {P:Program} {s0:An} {n:Nat} {ops:Array Oper} {Q:Exit->AS->Prop} {rest:List Oper} {o:Oper} {fr:List (Nat×AV)} {hp:List Ow}
theorem AWl.q{d:Nat}{r:AV}(A:o.dst=some d)(I:o.guard=none)(f:BI o.op=true)(Z:Nat.blt d n=true)(w:Quiet P hp o (AS.arg ⟨fr,hp⟩) r)(h:AWl P s0 n ops Q rest ⟨(d,r)::fr,hp⟩):AWl P s0 n ops Q (o::rest) ⟨fr,hp⟩:=
 A0T I f (by rw[A];exact Z) w (by rw[A];exact h)
theorem A6e{d:Nat}{B:Bool}(I:o.guard=some (b,B))(O:(ops[b]?).bind (·.dst)=some T)(K:BV fr T=some (.d (ex (.bool B))))(C:Nat.blt T n=true)(E:o.dst=some d)(f:BI o.op=true)(Z:Nat.blt d n=true)(w:Quiet P hp o (AS.arg ⟨fr,hp⟩) h)(A:AWl P s0 n ops Q rest ⟨(d,h)::fr,hp⟩):AWl P s0 n ops Q (o::rest) ⟨fr,hp⟩:=
 Yc I O K ZdL f (by rw[E];exact Z) w (by rw[E];exact A)
theorem A6d{d:Nat}{A:Bool}(I:o.guard=some (b,A))(O:(ops[b]?).bind (·.dst)=some T)(K:BV fr T=some (.d (ex z)))(B:isB z A=false)(C:Nat.blt T n=true)(E:o.dst=some d)(Z:Nat.blt d n=true)(h:AWl P s0 n ops Q rest ⟨(d,.d (ex undef))::fr,hp⟩):AWl P s0 n ops Q (o::rest) ⟨fr,hp⟩:=
 A0S I O K B ZdL (by rw[E];exact Z) (by rw[E];exact h)
theorem AWl.al{m b k A:Nat}(E:o.op=.alloc t)(K:o.dst=some A)(F:o.guard=none)(J:Tab P t d m b z)(G:Nat.beq t 335=false)(B:GP z.cells.toList=true)(Z:Nat.blt A n=true)(I:exO z.cells.toList=some c)(C:Ht hp=some k)(f:Fy hp (.var t (c.map .d))=some H)(h:AWl P s0 n ops Q rest ⟨(A,.ptr k 0)::fr,H⟩):AWl P s0 n ops Q (o::rest) ⟨fr,hp⟩:=by
 refine Yg E F J G B Zeh ?_;rw[Qa I]at f;rw[EF f,Fi C]at h;simp only[AS.new,AS.put,K];exact h
theorem A6g{k A:Nat}(B:o.op=.box t x)(G:o.dst=some A)(I:o.guard=none)(E:AS.arg ⟨fr,hp⟩ x=.d (AJ c))(F:Nat.beq t 335=false)(Z:Nat.blt A n=true)(C:Ht hp=some k)(f:Fy hp (.var t (c.map .d))=some H)(h:AWl P s0 n ops Q rest ⟨(A,.ptr k 0)::fr,H⟩):AWl P s0 n ops Q (o::rest) ⟨fr,hp⟩:=by
 refine AWl.box B I E (Nat.ne_of_beq_eq_false F) (by rw[G];exact Z) ?_;rw[EF f,Fi C]at h;simp only[AS.new,AS.put,G];exact h
theorem A4x{b id m:Nat}(C:o.op=.store t x y)(I:o.guard=none)(i:o.dst=none)(E:AS.arg ⟨fr,hp⟩ x=.ptr id 0)(O:AS.arg ⟨fr,hp⟩ y=.d (AJ c))(l:hp[id]? = some (.var U u))(J:Tab P t d m b z)(A:c.length=m)(B:u.length=m)(f:FK hp id (.var U (c.map .d))=some H)
  (h:AWl P s0 n ops Q rest ⟨fr,H⟩):AWl P s0 n ops Q (o::rest) ⟨fr,hp⟩:=
 Yb C I i E O l J A B (by rw[Ey f]at h;exact h)
theorem A4y{b id m off:Nat}(C:o.op=.store t x y)(F:o.guard=none)(i:o.dst=none)(E:AS.arg ⟨fr,hp⟩ x=.ptr id off)(O:AS.arg ⟨fr,hp⟩ y=.d (AJ vn))(l:hp[id]? = some (.var U (c.map .d)))(J:Tab P t d m b z)(B:vn.length=m)(I:SA c off vn=some uS)(f:FK hp id (.var U (uS.map .d))=some H)
  (h:AWl P s0 n ops Q rest ⟨fr,H⟩):AWl P s0 n ops Q (o::rest) ⟨fr,hp⟩:=by
 obtain⟨A,v⟩:=Oi I;refine QP C F i E O l J B (by rw[<-B];exact Nat.ble_eq_true_of_le v) ?_;rw[Ey f,A]at h;exact h
theorem A35{b id off:Nat}(F:o.op=.store t x y)(G:o.guard=none)(i:o.dst=none)(E:AS.arg ⟨fr,hp⟩ x=.ptr id off)(O:AS.arg ⟨fr,hp⟩ y=.d r)(l:hp[id]? = some (.var U (c.map .d)))(J:Tab P t d 1 b z)(A:One hp (.d r))(I:SA c off [r]=some vn)(f:FK hp id (.var U (vn.map .d))=some H)
  (h:AWl P s0 n ops Q rest ⟨fr,H⟩):AWl P s0 n ops Q (o::rest) ⟨fr,hp⟩:=by
 obtain⟨C,v⟩:=Oi I;have B:off<c.length:=v;refine NQ F G i E O l J A B ?_;rw[Ey f,C]at h
 have:Rx c off [r]=c.set off r:=by
  unfold Rx;exact ZhW
 rw[this]at h;exact h
theorem AWl.app{t T G k bytes id m b e:Nat}(C:o.op=.call { callee:=.builtin .append,args:=#[x,y],argTypes:=#[t,t] })(B:o.dst=some e)(I:o.guard=none)(E:AS.arg ⟨fr,hp⟩ x=.own id)(O:GG hp (AS.arg ⟨fr,hp⟩ y)=some (slD G k uf))(l:hp[id]? = some (.row T k vl))(J:Tab P t (.slice T) m b v)(A:Tab P T d k bytes z)(L:z.cells.size=k)(Z:Nat.blt e n=true)(j:(vl.length+uf.length)*bytes<=140737488355328)(F:vl.length+uf.length<=4611686018427387904)
  (p:Iz id (slD T k vl) fr=some vf) (K:PlainHp id hp) (f:FK hp id (.row T k (vl++uf))=some H) (h:AWl P s0 n ops Q rest ⟨(e,.own id)::vf,H⟩):AWl P s0 n ops Q (o::rest) ⟨fr,hp⟩:=by
 refine QS C I E O l J A L (by rw[B];exact Z) j F ?_;rw[Ey f,Qc p]at h;simp only[AS.appd,AS.put,B,EQ K.ok];exact h
theorem A6h{t T m b A bytes k e:Nat}(B:o.op=.buildSlice t 0 #[])(F:o.dst=some e)(I:o.guard=none)(J:Tab P t (.slice T) m b v)(E:Tab P T d A bytes z)(X:Nat.beq T 335=false)(g:Nat.blt 0 A=true)(Z:Nat.blt e n=true)(C:Ht hp=some k)(f:Fy hp (.row T A [])=some H)(h:AWl P s0 n ops Q rest ⟨(e,.own k)::fr,H⟩):AWl P s0 n ops Q (o::rest) ⟨fr,hp⟩:=by
 refine Ye B I J E (Nat.ne_of_beq_eq_false X) (by simpa[Nat.blt_eq]using g) (by rw[F];exact Z) ?_;rw[EF f,Fi C]at h;simp only[AS.new,AS.put,F];exact h
theorem A4A{t T m b A bytes k e:Nat}(B:o.op=.makeSlice t x y)(K:o.dst=some e)(F:o.guard=none)(E:AS.arg ⟨fr,hp⟩ x=.d (ex (.int .i64 0)))(O:AS.arg ⟨fr,hp⟩ y=.d (ex (.int .i64 i)))(J:Tab P t (.slice T) m b v)(G:Tab P T d A bytes z)(L:0<=i)(I:i<=1000000000)(j:Nat.ble bytes 65536=true)(X:Nat.beq T 335=false)(g:Nat.blt 0 A=true)(Z:Nat.blt e n=true)(C:Ht hp=some k)(f:Fy hp (.row T A [])=some H)(h:AWl P s0 n ops Q rest ⟨(e,.own k)::fr,H⟩):AWl P s0 n ops Q (o::rest) ⟨fr,hp⟩:=by
 refine A0U B F E O J G L I (Nat.le_of_ble_eq_true j) (Nat.ne_of_beq_eq_false X) (by simpa[Nat.blt_eq]using g) Zeh ?_;rw[EF f,Fi C]at h;simp only[AS.new,AS.put,K];exact h
theorem AWp.dr{id:Nat}{L:List Oper}(t:DrawOk P s0 n id vY L vm Q)(A:List (List (Nat×Nat)))(C:List (List Nat))(rs:List HR)(B:(A.length==C.length&&A.length==rs.length&&Nat.ble rs.length L.length)=true)(H:Dt L (Fc 0 A C)=true)(Z:Gw L A.length n=true)(steps:HSteps P ⟨fr,hp⟩ rs L A rs)
  (s:Tq fr hp rs.length L rs=some vc) (tail:AWl P s0 n L.toArray Q (L.drop A.length) vc):AWp P s0 n (.region id vY true) vm ⟨fr,hp⟩:=by
 refine A33 t A C rs B H Z steps ?_;simp only[Bool.and_eq_true,beq_iff_eq]at B;rw[B.1.2,<-OA s rfl,<-B.1.2];exact tail
end
section
variable {P:Program} {hp:List Ow} {o:Oper} {arg:Operand->AV}
theorem A0B(C:o.op=.load t x)(E:arg x=.d (Fb T c))(J:Tab P t d n b z)(Z:Ej d=true)(A:Ns n c=some vn):Quiet P hp o arg (.d (AJ vn)):=by
 obtain⟨B,v⟩:=Lz A;rw[B];exact JV C E J Z v
theorem Xw(C:o.op=.load t x)(E:arg x=.d (Fb T c))(J:Tab P t d n b z)(Z:Ej d=false)(A:atO 0 c=some r):Quiet P hp o arg (.d r):=by
 obtain⟨B,v⟩:=Tp A;rw[B];exact Mf C E J Z v
theorem A0C(C:o.op=.load t x)(E:arg x=.ptr m a)(l:hp[m]? = some (.var T (c.map .d)))(J:Tab P t d n b z)(Z:Ej d=true)(A:A1b a n c=some vn):Quiet P hp o arg (.d (AJ vn)):=by
 obtain⟨B,v⟩:=Yo A;rw[B];exact VG C E l J Z (Nat.ble_eq_true_of_le v)
theorem Xx(C:o.op=.load t x)(E:arg x=.ptr m a)(l:hp[m]? = some (.var T (c.map .d)))(J:Tab P t d n b z)(Z:Ej d=false)(A:atO a c=some r):Quiet P hp o arg (.d r):=by
 obtain⟨B,v⟩:=Tp A;rw[B];exact Mg C E l J Z v
theorem Quiet.ext{i:Nat}(C:o.op=.extract x i)(E:arg x=.d (EY c))(b:atO i c=some r):Quiet P hp o arg (.d r):=by
 obtain⟨A,v⟩:=Tp b;rw[A];exact Quiet.extract C E v
theorem Xz(F:o.op=.fieldAddr t x n)(E:arg x=.d (Fb k c))(j:Tab P t (.struct vS) b T z)(p:vS[n]? = some vW)(X:Tab P vW.type d m a v)(i:Nat.beq m 0=false)(A:NG vW.offset c=some vn):Quiet P hp o arg (.d (Fb k vn)):=by
 obtain⟨B,C⟩:=LL A;rw[B];exact Mj F E j p X (Nat.ne_of_beq_eq_false i)
theorem Xy(C:o.op=.fieldAddr t x n)(E:arg x=.ptr k g)(j:Tab P t (.struct vS) b T z)(p:vS[n]? = some vW)(X:Tab P vW.type d m a v)(i:Nat.beq m 0=false):Quiet P hp o arg (.ptr k (g+vW.offset)):=
 TE C E j p X (Nat.ne_of_beq_eq_false i)
end
def Cx:BinOp->Int->Int->Prop
 |.eql,a,b=>a=b
 |.neq,a,b=>a≠b
 |.lss,a,b=>a<b
 |.leq,a,b=>a<=b
 |.gtr,a,b=>b<a
 |.geq,a,b=>b<=a
 |_,_,_=>False
def RM:BinOp->Bool
 |.eql |.neq |.lss |.leq |.gtr |.geq=>true
 |_=>false
section
variable {P:Program} {hp:List Ow} {o:Oper} {arg:Operand->AV}
theorem XA{k:IntKind}(C:o.op=.binOp vU t x y U)(F:RM vU=true)(E:arg x=.d (ex (.int k i)))(O:arg y=.d (ex (.int k j)))(I:Cx vU i j):Quiet P hp o arg (.d (ex (.bool true))):=by
 refine Na C E O ?_;cases vU<;>first | (simp only[Cx]at I;simp[Vg,I];done) | (simp only[Cx]at I;simp[Vg];omega) | exact absurd F ZbN
theorem XB{k:IntKind}(C:o.op=.binOp vU t x y U)(F:RM vU=true)(E:arg x=.d (ex (.int k i)))(O:arg y=.d (ex (.int k j)))(I:¬Cx vU i j):Quiet P hp o arg (.d (ex (.bool false))):=by
 refine Na C E O ?_;cases vU<;>first | (simp only[Cx]at I;simp[Vg,I];done) | (simp only[Cx]at I;simp[Vg];omega) | exact absurd F ZbN
theorem TD{f:IntKind}(C:o.op=.indexAddr t x y)(E:GG hp (arg x)=some (slD k g ((vP::vu).map vF)))(O:arg y=.d (ex (.int f 0)))(J:Tab P t (.slice n) b T z)(X:Tab P n d m a v)(A:m=g):Quiet P hp o arg (.d (Fb k (vF vP))):=
 Quiet.index (P:=P) (hp:=hp) C E O J X A ZbK ZbV
theorem VH{A n b Y r T k i:Nat}(C:o.op=.slice t x (some y) none none)(E:GG hp (arg x)=some (slD T k (vu.map vF)))(O:arg y=.d (ex (.int .i64 (i:Nat))))(J:Tab P t (.slice A) n b z)(X:Tab P A d Y r v)(B:Y=k)(M:i<=vu.length):Quiet P hp o arg (.d (slD T k ((vu.drop i).map vF))):=by
 have h:=Quiet.slice (P:=P) (hp:=hp) (i:=(i:Nat)) (j:=((vu.map vF).length:Nat)) C E J X B (.inl ⟨y,rfl,O⟩) (.inr ⟨rfl,rfl⟩) ZbK Zhz ZbK
 have c:((vu.map vF).take (((vu.map vF).length:Nat):Int).toNat).drop ((i:Nat):Int).toNat=(vu.drop i).map vF:=by
  rw[show(((vu.map vF).length:Nat):Int).toNat=(vu.map vF).length from rfl,List.take_length,List.map_drop];rfl
 rwa [c]at h
theorem VE{A n b Y r T k i:Nat}(C:o.op=.slice t x none (some y) none)(E:GG hp (arg x)=some (slD T k (vu.map vF)))(O:arg y=.d (ex (.int .i64 (i:Nat))))(J:Tab P t (.slice A) n b z)(X:Tab P A d Y r v)(B:Y=k)(M:i<=vu.length):Quiet P hp o arg (.d (slD T k ((vu.take i).map vF))):=by
 have h:=Quiet.slice (P:=P) (hp:=hp) (i:=0) (j:=(i:Nat)) C E J X B (.inr ⟨rfl,rfl⟩) (.inl ⟨y,rfl,O⟩) ZbK ZbK Zhz
 have c:((vu.map vF).take ((i:Nat):Int).toNat).drop ((0:Nat):Int).toNat=(vu.take i).map vF:=by
  show((vu.map vF).take i).drop 0=_;rw[List.drop_zero,List.map_take]
 exact c▸h
end
theorem Hs(f:e->List D)(l:List e)(a:e):l.map f++[f a]=(l++[a]).map f:=by simp
theorem A6f{s0:An}{rest:List Oper}(o:va.dst=some b)(I:va.guard=none)(f:BI va.op=true)(Z:Nat.blt b n=true)(h:∃r,Quiet P H va (AS.arg ⟨vf,H⟩) r/\AWl P s0 n vY vm rest ⟨(b,r)::vf,H⟩):AWl P s0 n vY vm (va::rest) ⟨vf,H⟩:=by
 obtain⟨r,A,B⟩:=h;exact AWl.q o I f Z A B
theorem A4z{s0:An}{rest:List Oper}{A:Bool}(I:va.guard=some (T,A))(O:(vY[T]?).bind (·.dst)=some m)(K:BV vf m=some (.d (ex (.bool A))))(E:Nat.blt m n=true)(o:va.dst=some b)(f:BI va.op=true)(Z:Nat.blt b n=true)(h:∃r,Quiet P H va (AS.arg ⟨vf,H⟩) r/\AWl P s0 n vY vm rest ⟨(b,r)::vf,H⟩):AWl P s0 n vY vm (va::rest) ⟨vf,H⟩:=by
 obtain⟨r,B,C⟩:=h;exact A6e I O K E o f Z B C
def Ry:List HR->HR->Option (List HR)
 |[],x=>some [x]
 |o::l,x=>match Ry l x with
  |some r=>some (o::r)
  |none=>none
theorem Uj:∀{l:List HR} {x:HR} {r:List HR},Ry l x=some r->r=l++[x]
 |[],x,r,h=>by cases h;rfl
 |o::l,x,r,h=>by
  unfold Ry at h;split at h
  .rename_i b a
   cases h;rw[Uj a];rfl
  .cases h
def HS(P:Program)(d:AS)(K:List HR->Prop):List HR->List Oper->List (List (Nat×Nat))->Prop
 |f,_,[]=>K f
 |f,o::L,e::n=>∃r,HStep P d f e o r/\∃H,Ry f r=some H/\HS P d K H L n
 |_,[],_::_=>False
def LK:Nat->List Oper->List (List (Nat×Nat))->Bool
 |_,_,[]=>true
 |i,o::L,e::n=>e.all (λp=>Nat.blt p.2 i)&&(match o.guard with |some (j,_)=>Nat.blt j i |none=>true)&&LK (i+1) L n
 |_,[],_::_=>false
theorem Sb{B O:List HR}(h:∀p∈vE,p.2<B.length):Eu vc (B++O) vE=Eu vc B vE:=by
 funext x
 cases x with
 |tmp t=>
  show(match vE.find? (λp=>p.1==t)with
   |some p=>match (B++O)[p.2]? with
    |some h=>h.val
    |none=>.d Cs
   |none=>_)=(match vE.find? (λp=>p.1==t)with
   |some p=>match B[p.2]? with
    |some h=>h.val
    |none=>.d Cs
   |none=>_)
  cases A:vE.find? (λp=>p.1==t)with
  |none=>rfl
  |some p=>
   simp only;rw[List.getElem?_append_left (h p (List.mem_of_find?_eq_some A))]
 |const v=>rfl
 |global g=>rfl
 |func f=>rfl
theorem HStep.more{acc O:List HR}{r:HR}(h:HStep P vc acc vE va r)(X:∀p∈vE,p.2<acc.length)(I:∀j b,va.guard=some (j,b)->j<acc.length):HStep P vc (acc++O) vE va r:=by
 cases r with
 |av r=>
  rcases h with⟨A,B⟩ | ⟨j,b,c,A,B,h3⟩
  .exact .inl ⟨A,by rw[Sb X];exact B⟩
  .refine .inr ⟨j, b, c, A, by rw [List.getElem?_append_left (I j b A)]; exact B, ?_⟩
   rw[Sb X];exact h3
 |new T a=>exact h
theorem VM{P:Program}{σ:AS}{K:List HR->Prop}:∀{es:List (List (Nat×Nat))} {L:List Oper} {acc:List HR},LK acc.length L es=true->HS P σ K acc L es->∃more,more.length=es.length/\HSteps P σ (acc++more) L es more/\K (acc++more)
 | [],L,acc,_,h=>by
  refine ⟨[],rfl,HSteps.nil,?_⟩
  rw [List.append_nil]
  cases L<;>exact h
 | e::es,[],acc,he,h=>by cases he
 | e::es,o::L,acc,he,h=>by
  obtain ⟨r,h1,acc',h2,h3⟩:=h
  have e1:=Uj h2
  subst e1
  simp only [LK,Bool.and_eq_true] at he
  obtain ⟨⟨he1,he2⟩,he3⟩:=he
  obtain ⟨more,h4,h5,h6⟩:=VM (acc:=acc++[r]) (by simpa using he3) h3
  rw [List.append_assoc,List.singleton_append] at h5 h6
  refine ⟨r::more,by simp [h4],⟨h1.more (λp hp=>?_) λj b hj=>?_,h5⟩,h6⟩
  .have:=List.all_eq_true.1 he1 p hp
   simpa [Nat.blt_eq] using this
  .rw [hj] at he2
   simpa [Nat.blt_eq] using he2
theorem OK{P:Program}{s0:An}{n:Nat}{Q Q0:Exit->AS->Prop}{fr:List (Nat×AV)}{hp:List Ow}{id:Nat}{L0:Array Oper}{L:List Oper}(hm:DrawOk P s0 n id L0 L Q0 Q)(es:List (List (Nat×Nat)))(bs:List (List Nat))(hlen:(es.length==bs.length&&Nat.ble es.length L.length)=true)(hok:Dt L (Fc 0 es bs)=true)(hd:Gw L es.length n=true)(hlt:LK 0 L es=true)
  (h:HS P ⟨fr,hp⟩ (λrs=>∃τ,Tq fr hp es.length L rs=some τ/\AWl P s0 n L.toArray Q (L.drop es.length) τ) [] L es):AWp P s0 n (.region id L0 true) Q0 ⟨fr,hp⟩:=by
 obtain ⟨rs,h1,h2,τ,h3,h4⟩:=VM (acc:=[]) hlt h
 simp only [List.nil_append] at h2 h3
 simp only [Bool.and_eq_true,beq_iff_eq] at hlen
 exact AWp.dr hm es bs rs (by simp only [Bool.and_eq_true,beq_iff_eq];exact ⟨⟨hlen.1,h1.symm⟩,by rw [h1];exact hlen.2⟩) hok hd h2 (by rw [h1];exact h3) h4
section
variable {P:Program} {hp:List Ow} {arg:Operand->AV} {dd:Option Tmp} {ty:TypeId} {ps:String} {af:Array Edge} {gd:Option (Nat×Bool)}
theorem XG(E:GG hp (arg x)=some (slD m a vl))(J:Tab P t (.slice n) b T z):Quiet P hp ⟨dd,.call { callee:=.builtin .len,args:=#[x],argTypes:=#[t] },ty,ps,af,gd⟩ arg (.d (ex (.int .i64 vl.length))):=Quiet.len (o:=⟨dd,.call { callee:=.builtin .len,args:=#[x],argTypes:=#[t] },ty,ps,af,gd⟩) rfl E J
theorem Bi{F:Type}{e n b T k:Nat}{f:F->List D}{l:List F}(E:GG hp (arg x)=some (slD T k (l.map f)))(J:Tab P t (.slice e) n b z):Quiet P hp ⟨dd,.call { callee:=.builtin .len,args:=#[x],argTypes:=#[t] },ty,ps,af,gd⟩ arg (.d (ex (.int .i64 (l.length:Nat)))):=Xv (o:=⟨dd,.call { callee:=.builtin .len,args:=#[x],argTypes:=#[t] },ty,ps,af,gd⟩) rfl E J
theorem KB(E:GG hp (arg x)=some (slD k g ((vP::vu).map vF)))(O:arg y=.d (ex (.int o 0)))(J:Tab P t (.slice n) b T z)(X:Tab P n d m a v)(A:m=g):Quiet P hp ⟨dd,.indexAddr t x y,ty,ps,af,gd⟩ arg (.d (Fb k (vF vP))):=TD (o:=⟨dd,.indexAddr t x y,ty,ps,af,gd⟩) rfl E O J X A
theorem Mq(E:GG hp (arg x)=some (slD k g (vu.map vF)))(O:arg y=.d (ex (.int .i64 (vk:Nat))))(J:Tab P t (.slice n) b T z)(X:Tab P n d m a v)(A:m=g)(M:vk<=vu.length):Quiet P hp ⟨dd,.slice t x (some y) none none,ty,ps,af,gd⟩ arg (.d (slD k g ((vu.drop vk).map vF))):=VH (o:=⟨dd,.slice t x (some y) none none,ty,ps,af,gd⟩) rfl E O J X A M
theorem Mk(E:GG hp (arg x)=some (slD k g (vu.map vF)))(O:arg y=.d (ex (.int .i64 (vk:Nat))))(J:Tab P t (.slice n) b T z)(X:Tab P n d m a v)(A:m=g)(M:vk<=vu.length):Quiet P hp ⟨dd,.slice t x none (some y) none,ty,ps,af,gd⟩ arg (.d (slD k g ((vu.take vk).map vF))):=VE (o:=⟨dd,.slice t x none (some y) none,ty,ps,af,gd⟩) rfl E O J X A M
theorem Ck{F:Type}[Inhabited F]{e n b Y r T A k:Nat}{f:F->List D}{l:List F}(E:GG hp (arg x)=some (slD T A (l.map f)))(O:arg y=.d (ex (.int o (k:Nat))))(J:Tab P t (.slice e) n b z)(X:Tab P e d Y r v)(B:Y=A)(C:k<l.length):Quiet P hp ⟨dd,.indexAddr t x y,ty,ps,af,gd⟩ arg (.d (Fb T (f (l.getD k default)))):=TC (o:=⟨dd,.indexAddr t x y,ty,ps,af,gd⟩) rfl E O J X B C
theorem Nj{T U:TypeId}(E:arg x=.d (ex (.int .i64 i)))(O:arg y=.d (ex (.int .i64 j)))(A:-9223372036854775808<=i+j)(B:i+j<=9223372036854775807):Quiet P hp ⟨dd,.binOp .add T x y U,ty,ps,af,gd⟩ arg (.d (ex (.int .i64 (i+j)))):=Quiet.add (o:=⟨dd,.binOp .add T x y U,ty,ps,af,gd⟩) rfl E O A B
theorem Nb(E:arg x=.d (ex (.int .i64 i)))(O:arg y=.d (ex (.int .i64 j)))(A:-9223372036854775808<=i-j)(B:i-j<=9223372036854775807):Quiet P hp ⟨dd,.binOp .sub t x y U,ty,ps,af,gd⟩ arg (.d (ex (.int .i64 (i-j)))):=Quiet.sub (o:=⟨dd,.binOp .sub t x y U,ty,ps,af,gd⟩) rfl E O A B
theorem Kt(E:arg x=.d (ex (.int .i64 (n:Nat))))(O:arg y=.d (ex (.int .i64 1)))(A:(n:Int)<9223372036854775807):Quiet P hp ⟨dd,.binOp .add t x y U,ty,ps,af,gd⟩ arg (.d (ex (.int .i64 ((n+1:Nat):Int)))):=Quiet.succ (o:=⟨dd,.binOp .add t x y U,ty,ps,af,gd⟩) rfl E O A
theorem XD(E:arg x=.d (ex (.int .i64 i)))(O:arg y=.d (ex (.int .i64 j)))(g:0<=i)(A:i<=9223372036854775807)(F:0<j):Quiet P hp ⟨dd,.binOp .quo t x y U,ty,ps,af,gd⟩ arg (.d (ex (.int .i64 (i/j)))):=Quiet.quo (o:=⟨dd,.binOp .quo t x y U,ty,ps,af,gd⟩) rfl E O g A F
theorem QA(E:arg x=.d (ex (.int o i)))(O:arg y=.d (ex (.int o j)))(g:0<=i)(F:0<j):Quiet P hp ⟨dd,.binOp .rem t x y U,ty,ps,af,gd⟩ arg (.d (ex (.int o (i%j)))):=Quiet.rem (o:=⟨dd,.binOp .rem t x y U,ty,ps,af,gd⟩) rfl E O g F
theorem OC(E:arg x=.d (ex (.int o i)))(O:arg y=.d (ex (.int o j)))(F:j≠0):Quiet P hp ⟨dd,.binOp .rem t x y U,ty,ps,af,gd⟩ arg (.d (ex (.int o (i.tmod j)))):=Xu (o:=⟨dd,.binOp .rem t x y U,ty,ps,af,gd⟩) rfl E O F
theorem TL{c:Bool}(E:arg x=.d (ex (.int o i)))(O:arg y=.d (ex (.int o j)))(I:Vg vU i j=some c):Quiet P hp ⟨dd,.binOp vU t x y U,ty,ps,af,gd⟩ arg (.d (ex (.bool c))):=Na (o:=⟨dd,.binOp vU t x y U,ty,ps,af,gd⟩) rfl E O I
theorem FH(F:RM vU=true)(E:arg x=.d (ex (.int o i)))(O:arg y=.d (ex (.int o j)))(I:Cx vU i j):Quiet P hp ⟨dd,.binOp vU t x y U,ty,ps,af,gd⟩ arg (.d (ex (.bool true))):=XA (o:=⟨dd,.binOp vU t x y U,ty,ps,af,gd⟩) rfl F E O I
theorem GY(F:RM vU=true)(E:arg x=.d (ex (.int o i)))(O:arg y=.d (ex (.int o j)))(I:¬Cx vU i j):Quiet P hp ⟨dd,.binOp vU t x y U,ty,ps,af,gd⟩ arg (.d (ex (.bool false))):=XB (o:=⟨dd,.binOp vU t x y U,ty,ps,af,gd⟩) rfl F E O I
theorem TG{a:Bool}(E:arg x=.d (ex (.bool a))):Quiet P hp ⟨dd,.unOp .not t x,ty,ps,af,gd⟩ arg (.d (ex (.bool (!a)))):=Quiet.not (o:=⟨dd,.unOp .not t x,ty,ps,af,gd⟩) rfl E
theorem GC(E:arg y=h)(I:arg x=.d (ex (.bool true))):Quiet P hp ⟨dd,.pick x y vN,ty,ps,af,gd⟩ arg h:=NN (o:=⟨dd,.pick x y vN,ty,ps,af,gd⟩) rfl E I
theorem IC(O:arg vN=h)(I:arg x=.d (ex (.bool false))):Quiet P hp ⟨dd,.pick x y vN,ty,ps,af,gd⟩ arg h:=NO (o:=⟨dd,.pick x y vN,ty,ps,af,gd⟩) rfl O I
theorem OG{k A:IntKind}(E:arg x=.d (ex (.int k i)))(j:Tab P t d n b z)(h:Tab P U (.int A) T m v):Quiet P hp ⟨dd,.convert t U x,ty,ps,af,gd⟩ arg (.d (ex (.int A (A.wrap i)))):=Qx (o:=⟨dd,.convert t U x,ty,ps,af,gd⟩) rfl E j h
theorem OF(E:arg x=.d (Fb k c))(j:Tab P t (.struct vS) b T z)(p:vS[n]? = some vW)(X:Tab P vW.type d m a v)(i:Nat.beq m 0=false)(A:NG vW.offset c=some vn):Quiet P hp ⟨dd,.fieldAddr t x n,ty,ps,af,gd⟩ arg (.d (Fb k vn)):=Xz (o:=⟨dd,.fieldAddr t x n,ty,ps,af,gd⟩) rfl E j p X i A
theorem GX(E:arg x=.ptr k g)(j:Tab P t (.struct vS) b T z)(p:vS[n]? = some vW)(X:Tab P vW.type d m a v)(i:Nat.beq m 0=false):Quiet P hp ⟨dd,.fieldAddr t x n,ty,ps,af,gd⟩ arg (.ptr k (g+vW.offset)):=Xy (o:=⟨dd,.fieldAddr t x n,ty,ps,af,gd⟩) rfl E j p X i
theorem Nf{ds r:List D}(E:arg x=.ptr m a)(l:hp[m]? = some (.var T (ds.map .d)))(J:Tab P t d n b z)(Z:Ej d=true)(A:A1b a n ds=some r):Quiet P hp ⟨dd,.load t x,ty,ps,af,gd⟩ arg (.d (AJ r)):=A0C (o:=⟨dd,.load t x,ty,ps,af,gd⟩) rfl E l J Z A
theorem GW{ds:List D}(E:arg x=.ptr m a)(l:hp[m]? = some (.var T (ds.map .d)))(J:Tab P t d n b z)(Z:Ej d=false)(A:atO a ds=some r):Quiet P hp ⟨dd,.load t x,ty,ps,af,gd⟩ arg (.d r):=Xx (o:=⟨dd,.load t x,ty,ps,af,gd⟩) rfl E l J Z A
theorem ID{n b T id off:Nat}{r:AV}(E:arg x=.ptr id off)(l:hp[id]? = some (.var T u))(J:Tab P t d n b z)(Z:Ej d=false)(I:u[off]? = some r):Quiet P hp ⟨dd,.load t x,ty,ps,af,gd⟩ arg r:=Me (o:=⟨dd,.load t x,ty,ps,af,gd⟩) rfl E l J Z I
theorem Ky(E:arg x=.d (Fb T c))(J:Tab P t d n b z)(Z:Ej d=true)(i:c.length=n):Quiet P hp ⟨dd,.load t x,ty,ps,af,gd⟩ arg (.d (AJ c)):=TA (o:=⟨dd,.load t x,ty,ps,af,gd⟩) rfl E J Z i
theorem QE(E:arg x=.d (Fb T c))(J:Tab P t d n b z)(Z:Ej d=true)(A:Ns n c=some vn):Quiet P hp ⟨dd,.load t x,ty,ps,af,gd⟩ arg (.d (AJ vn)):=A0B (o:=⟨dd,.load t x,ty,ps,af,gd⟩) rfl E J Z A
theorem Gr(E:arg x=.d (Fb T c))(J:Tab P t d n b z)(Z:Ej d=false)(A:atO 0 c=some r):Quiet P hp ⟨dd,.load t x,ty,ps,af,gd⟩ arg (.d r):=Xw (o:=⟨dd,.load t x,ty,ps,af,gd⟩) rfl E J Z A
theorem A5X{ds:List D}(E:arg x=.d (AJ ds))(O:arg y=.d (ex (.int o i)))(J:Tab P t (.array a n) b T z)(X:Tab P n d 1 m v)(Z:Ej d=false)(g:0<=i)(M:i<a)(A:i.toNat<ds.length):Quiet P hp ⟨dd,.index t x y,ty,ps,af,gd⟩ arg (.d (Dd ds i.toNat)):=Sk (o:=⟨dd,.index t x y,ty,ps,af,gd⟩) rfl E O J X Z g M A
theorem XH(E:arg x=.d (EY c))(b:atO n c=some r):Quiet P hp ⟨dd,.extract x n,ty,ps,af,gd⟩ arg (.d r):=Quiet.ext (o:=⟨dd,.extract x n,ty,ps,af,gd⟩) rfl E b
theorem A2I(J:Tab P t (.struct vS) n b z)(K:FieldsT P vS.toList vE)(A:GP z.cells.toList=true)(B:PartsA hp arg vX uq)(p:FQ (λi=>vE[i]?) (Tj z.cells.toList) uq=some c):Quiet P hp ⟨dd,.build t vX.toArray,ty,ps,af,gd⟩ arg (.d (AJ c)):=Quiet.build (o:=⟨dd,.build t vX.toArray,ty,ps,af,gd⟩) rfl J K A B p
theorem VJ(J:Tab P t (.array n U) b T z)(X:Tab P U d m a v)(A:GP z.cells.toList=true)(B:PartsA hp arg vX uq)(p:FQ (λi=>some (i*m,m)) (Tj z.cells.toList) uq=some c):Quiet P hp ⟨dd,.build t vX.toArray,ty,ps,af,gd⟩ arg (.d (AJ c)):=Qy (o:=⟨dd,.build t vX.toArray,ty,ps,af,gd⟩) rfl J X A B p
theorem KR{len n b Y E:Nat}{parts:List (Nat×Operand)}{r:List (Nat×List D)}(J:Tab P t (.slice U) n b z)(X:Tab P U d Y E v)(G:0<len)(C:0<Y)(F:v.cells.size=Y)(I:len*Y<=16777216)(A:GP v.cells.toList=true)(B:PartsA hp arg parts r)(p:FQ (λi=>some (i*Y,Y)) (List.replicate (len*Y) Cs) r=some c):Quiet P hp ⟨dd,.buildSlice t len parts.toArray,ty,ps,af,gd⟩ arg (.d (slD U Y (EK Y len c))):=Quiet.buildSlice (o:=⟨dd,.buildSlice t len parts.toArray,ty,ps,af,gd⟩) rfl J X G C F I A B p
theorem A2D{lo hi:Option Operand}(E:GG hp (arg x)=some (slD k g vl))(J:Tab P t (.slice n) b T z)(X:Tab P n d m a v)(B:m=g)(M:(∃y,lo=some y/\arg y=.d (ex (.int .i64 i)))\/(lo=none/\i=0))(h:(∃y,hi=some y/\arg y=.d (ex (.int .i64 j)))\/(hi=none/\j=vl.length))(A:0<=i)(C:i<=j)(e:j<=vl.length):Quiet P hp ⟨dd,.slice t x lo hi none,ty,ps,af,gd⟩ arg (.d (slD k g ((vl.take j.toNat).drop i.toNat))):=Quiet.slice (o:=⟨dd,.slice t x lo hi none,ty,ps,af,gd⟩) rfl E J X B M h A C e
theorem XF(E:arg x=.d (ex (.int o i)))(O:arg y=.d (ex (.int o j))):Quiet P hp ⟨dd,.call { callee:=.builtin .max,args:=#[x,y],argTypes:=vr },ty,ps,af,gd⟩ arg (.d (ex (.int o (Max.max i j)))):=Quiet.max (o:=⟨dd,.call { callee:=.builtin .max,args:=#[x,y],argTypes:=vr },ty,ps,af,gd⟩) rfl E O
theorem TH(E:arg x=.d (ex (.int o i)))(O:arg y=.d (ex (.int o j))):Quiet P hp ⟨dd,.call { callee:=.builtin .min,args:=#[x,y],argTypes:=vr },ty,ps,af,gd⟩ arg (.d (ex (.int o (Min.min i j)))):=Quiet.min (o:=⟨dd,.call { callee:=.builtin .min,args:=#[x,y],argTypes:=vr },ty,ps,af,gd⟩) rfl E O
theorem XE(E:arg x=.d (ex (.int .u8 (n:Nat))))(O:arg y=.d (ex (.int .u8 (b:Nat))))(s:n<256)(F:b<256):Quiet P hp ⟨dd,.binOp .or t x y U,ty,ps,af,gd⟩ arg (.d (ex (.int .u8 ((n ||| b:Nat):Int)))):=A0A (o:=⟨dd,.binOp .or t x y U,ty,ps,af,gd⟩) rfl E O s F
theorem EX(p:arg x=.d (ex (.func (.func vb) #[] #[])))(I:Abs P vb c r)(s:ArgsLe hp arg vJ c):Quiet P hp ⟨dd,.call { callee:=.value x,args:=vJ.toArray,argTypes:=vr },ty,ps,af,gd⟩ arg (.d r):=Quiet.call (o:=⟨dd,.call { callee:=.value x,args:=vJ.toArray,argTypes:=vr },ty,ps,af,gd⟩) rfl p I s
theorem AZ{r:AV}(E:arg x=r):Quiet P hp ⟨dd,.move x,ty,ps,af,gd⟩ arg r:=Quiet.move (.inl rfl) E
theorem Dm(E:arg x=h):Quiet P hp ⟨dd,.assign x,ty,ps,af,gd⟩ arg h:=Quiet.move (.inr rfl) E
end
section
variable {P:Program} {s0:An} {n:Nat} {ops:Array Oper} {Q:Exit->AS->Prop} {rest:List Oper} {fr:List (Nat×AV)} {hp:List Ow} {ty:TypeId} {ps:String} {af:Array Edge}
theorem A6c{m b k A:Nat}(J:Tab P t d m b z)(E:Nat.beq t 335=false)(B:GP z.cells.toList=true)(Z:Nat.blt A n=true)(I:exO z.cells.toList=some c)(C:Ht hp=some k)(f:Fy hp (.var t (c.map .d))=some H)(h:AWl P s0 n ops Q rest ⟨(A,.ptr k 0)::fr,H⟩):AWl P s0 n ops Q (⟨some A,.alloc t,ty,ps,af,none⟩::rest) ⟨fr,hp⟩:=AWl.al (o:=⟨some A,.alloc t,ty,ps,af,none⟩) rfl rfl rfl J E B Z I C f h
theorem A6b{k A:Nat}(E:AS.arg ⟨fr,hp⟩ x=.d (AJ c))(B:Nat.beq t 335=false)(Z:Nat.blt A n=true)(C:Ht hp=some k)(f:Fy hp (.var t (c.map .d))=some H)(h:AWl P s0 n ops Q rest ⟨(A,.ptr k 0)::fr,H⟩):AWl P s0 n ops Q (⟨some A,.box t x,ty,ps,af,none⟩::rest) ⟨fr,hp⟩:=A6g (o:=⟨some A,.box t x,ty,ps,af,none⟩) rfl rfl rfl E B Z C f h
theorem A4t{b id m:Nat}(E:AS.arg ⟨fr,hp⟩ x=.ptr id 0)(O:AS.arg ⟨fr,hp⟩ y=.d (AJ c))(l:hp[id]? = some (.var U u))(J:Tab P t d m b z)(A:c.length=m)(B:u.length=m)(f:FK hp id (.var U (c.map .d))=some H)(h:AWl P s0 n ops Q rest ⟨fr,H⟩):AWl P s0 n ops Q (⟨none,.store t x y,ty,ps,af,none⟩::rest) ⟨fr,hp⟩:=A4x (o:=⟨none,.store t x y,ty,ps,af,none⟩) rfl rfl rfl E O l J A B f h
theorem A4u{b id m off:Nat}(E:AS.arg ⟨fr,hp⟩ x=.ptr id off)(O:AS.arg ⟨fr,hp⟩ y=.d (AJ vn))(l:hp[id]? = some (.var U (c.map .d)))(J:Tab P t d m b z)(A:vn.length=m)(I:SA c off vn=some uS)(f:FK hp id (.var U (uS.map .d))=some H)(h:AWl P s0 n ops Q rest ⟨fr,H⟩):AWl P s0 n ops Q (⟨none,.store t x y,ty,ps,af,none⟩::rest) ⟨fr,hp⟩:=A4y (o:=⟨none,.store t x y,ty,ps,af,none⟩) rfl rfl rfl E O l J A I f h
theorem Kd{b id off:Nat}(E:AS.arg ⟨fr,hp⟩ x=.ptr id off)(O:AS.arg ⟨fr,hp⟩ y=.d r)(l:hp[id]? = some (.var U (c.map .d)))(J:Tab P t d 1 b z)(A:One hp (.d r))(I:SA c off [r]=some vn)(f:FK hp id (.var U (vn.map .d))=some H)(h:AWl P s0 n ops Q rest ⟨fr,H⟩):AWl P s0 n ops Q (⟨none,.store t x y,ty,ps,af,none⟩::rest) ⟨fr,hp⟩:=A35 (o:=⟨none,.store t x y,ty,ps,af,none⟩) rfl rfl rfl E O l J A I f h
theorem DV{t T F k bytes id m b e:Nat}{A r2:List (List D)}(E:AS.arg ⟨fr,hp⟩ x=.own id)(O:GG hp (AS.arg ⟨fr,hp⟩ y)=some (slD F k r2))(l:hp[id]? = some (.row T k A))(J:Tab P t (.slice T) m b v)(B:Tab P T d k bytes z)(G:z.cells.size=k)(Z:Nat.blt e n=true)(j:(A.length+r2.length)*bytes<=140737488355328)(C:A.length+r2.length<=4611686018427387904)(p:Iz id (slD T k A) fr=some vf)(K:PlainHp id hp)(f:FK hp id (.row T k (A++r2))=some H)(h:AWl P s0 n ops Q rest ⟨(e,.own id)::vf,H⟩):AWl P s0 n ops Q (⟨some e,.call { callee:=.builtin .append,args:=#[x,y],argTypes:=#[t,t] },ty,ps,af,none⟩::rest) ⟨fr,hp⟩:=AWl.app (o:=⟨some e,.call { callee:=.builtin .append,args:=#[x,y],argTypes:=#[t,t] },ty,ps,af,none⟩) rfl rfl rfl E O l J B G Z j C p K f h
theorem TT{t T m b A bytes k e:Nat}(J:Tab P t (.slice T) m b v)(B:Tab P T d A bytes z)(X:Nat.beq T 335=false)(g:Nat.blt 0 A=true)(Z:Nat.blt e n=true)(C:Ht hp=some k)(f:Fy hp (.row T A [])=some H)(h:AWl P s0 n ops Q rest ⟨(e,.own k)::fr,H⟩):AWl P s0 n ops Q (⟨some e,.buildSlice t 0 #[],ty,ps,af,none⟩::rest) ⟨fr,hp⟩:=A6h (o:=⟨some e,.buildSlice t 0 #[],ty,ps,af,none⟩) rfl rfl rfl J B X g Z C f h
theorem A4v{t T m b A bytes k e:Nat}(E:AS.arg ⟨fr,hp⟩ x=.d (ex (.int .i64 0)))(O:AS.arg ⟨fr,hp⟩ y=.d (ex (.int .i64 i)))(J:Tab P t (.slice T) m b v)(B:Tab P T d A bytes z)(F:0<=i)(I:i<=1000000000)(j:Nat.ble bytes 65536=true)(X:Nat.beq T 335=false)(g:Nat.blt 0 A=true)(Z:Nat.blt e n=true)(C:Ht hp=some k)(f:Fy hp (.row T A [])=some H)(h:AWl P s0 n ops Q rest ⟨(e,.own k)::fr,H⟩):AWl P s0 n ops Q (⟨some e,.makeSlice t x y,ty,ps,af,none⟩::rest) ⟨fr,hp⟩:=A4A (o:=⟨some e,.makeSlice t x y,ty,ps,af,none⟩) rfl rfl rfl E O J B F I j X g Z C f h
theorem CU{d:Nat}(f:BI uj=true)(Z:Nat.blt d n=true)(h:∃r,Quiet P hp ⟨some d,uj,ty,ps,af,none⟩ (AS.arg ⟨fr,hp⟩) r/\AWl P s0 n ops Q rest ⟨(d,r)::fr,hp⟩):AWl P s0 n ops Q (⟨some d,uj,ty,ps,af,none⟩::rest) ⟨fr,hp⟩:=A6f rfl rfl f Z h
theorem No{d:Nat}{A:Bool}(O:(ops[b]?).bind (·.dst)=some T)(K:BV fr T=some (.d (ex (.bool A))))(B:Nat.blt T n=true)(f:BI uj=true)(Z:Nat.blt d n=true)(h:∃r,Quiet P hp ⟨some d,uj,ty,ps,af,some (b,A)⟩ (AS.arg ⟨fr,hp⟩) r/\AWl P s0 n ops Q rest ⟨(d,r)::fr,hp⟩):AWl P s0 n ops Q (⟨some d,uj,ty,ps,af,some (b,A)⟩::rest) ⟨fr,hp⟩:=A4z rfl O K B rfl f Z h
theorem QO{d:Nat}{A:Bool}(O:(ops[b]?).bind (·.dst)=some T)(K:BV fr T=some (.d (ex z)))(B:isB z A=false)(C:Nat.blt T n=true)(Z:Nat.blt d n=true)(h:AWl P s0 n ops Q rest ⟨(d,.d (ex undef))::fr,hp⟩):AWl P s0 n ops Q (⟨some d,uj,ty,ps,af,some (b,A)⟩::rest) ⟨fr,hp⟩:=A6d rfl O K B C rfl Z h
end
def plO:List Field->Option (List (Nat×Nat))
 |[]=>some []
 |f::l=>match Rq Yk f.type with
  |some p=>match plO l with
   |some r=>some ((f.offset,p.n)::r)
   |none=>none
  |none=>none
theorem A1v:∀{l:List Field} {r:List (Nat×Nat)},plO l=some r->FieldsT Tryz.prog l r
 |[],r,h=>by cases h;exact FieldsT.nil
 |f::l,r,h=>by
  unfold plO at h
  cases J:Rq Yk f.type with
  |none=>rw[J]at h;cases h
  |some p=>
   rw[J]at h;simp only at h
   cases b:plO l with
   |none=>rw[b]at h;cases h
   |some C=>
    rw[b]at h;cases h;obtain⟨A,B⟩:=OR Ym J;rw[A]at B;exact FieldsT.cons B (A1v b)
def PartOk(G:List Ow)(U:AV)(n:List D):Prop:=U=.d (AJ n)\/∃y,GG G U=some y/\One G U/\n=[y]
theorem AA(A:h=.d (AJ c)):PartOk H h c:=.inl A
theorem PartOk.one(A:GG H h=some r)(B:One H h):PartOk H h [r]:=.inr ⟨r,A,B,rfl⟩
def Yq:List (Nat×List D)->Nat×List D->Option (List (Nat×List D))
 |[],x=>some [x]
 |o::l,x=>match Yq l x with
  |some r=>some (o::r)
  |none=>none
theorem Ui:∀{l:List (Nat×List D)} {x:Nat×List D} {r:List (Nat×List D)},Yq l x=some r->r=l++[x]
 |[],x,r,h=>by cases h;rfl
 |o::l,x,r,h=>by
  unfold Yq at h;split at h
  .rename_i b a
   cases h;rw[Ui a];rfl
  .cases h
def PC(G:List Ow)(arg:Operand->AV)(K:List (Nat×List D)->Prop):List (Nat×List D)->List (Nat×Operand)->Prop
 |f,[]=>K f
 |f,(i,x)::l=>∃n,PartOk G (arg x) n/\∃H,Yq f (i,n)=some H/\PC G arg K H l
theorem Ka{G:List Ow}{arg:Operand->AV}{K:List (Nat×List D)->Prop}:∀{l:List (Nat×Operand)} {f:List (Nat×List D)},PC G arg K f l->∃r,PartsA G arg l r/\K (f++r)
 |[],f,h=>⟨[],PartsA.nil,by rw[List.append_nil];exact h⟩
 |(i,x)::l,f,⟨n,A,H,B,L⟩=>by
  have e:=Ui B;subst e;obtain⟨r,V,m⟩:=Ka L;rw[List.append_assoc,List.singleton_append]at m;exact⟨(i,n)::r,⟨rfl,A,V⟩,m⟩
def PT(place:Nat->Option (Nat×Nat)):List D->List (Nat×List D)->Option (List D)
 |R,[]=>some R
 |R,(i,n)::r=>match place i with
  |some (off,size)=>bif Nat.beq n.length size then match SA R off n with
   |some o=>PT place o r
   |none=>none else none
  |none=>none
theorem JJ{place:Nat->Option (Nat×Nat)}:∀{r:List (Nat×List D)} {R x:List D},PT place R r=some x->FQ place R r=some x
 |[],R,x,h=>h
 |(i,n)::r,R,x,h=>by
  unfold PT at h;unfold FQ
  cases G:place i with
  |none=>rw[G]at h;cases h
  |some q=>
   obtain⟨off,size⟩:=q;rw[G]at h;simp only at h ⊢
   cases F:Nat.beq n.length size with
   |false=>exact ZhZ
   |true=>
    rw[F]at h;simp only[cond_true]at h
    cases f:SA R off n with
    |none=>rw[f]at h;cases h
    |some o=>
     rw[f]at h;obtain⟨c,v⟩:=Oi f;have A:=Nat.eq_of_beq_eq_true F;have W:Nat.ble (off+size) R.length=true:=Nat.ble_eq_true_of_le ZbK;rw[W,<-c];exact JJ h
section
variable {P:Program} {hp:List Ow} {arg:Operand->AV} {dd:Option Tmp} {ty:TypeId} {ps:String} {af:Array Edge} {gd:Option (Nat×Bool)}
theorem AT(J:Tab Tryz.prog t (.struct vS) n b z)(K:plO vS.toList=some vE)(A:GP z.cells.toList=true)(C:exO z.cells.toList=some c)(h:PC hp arg (λr=>∃R,PT (λi=>vE[i]?) c r=some R/\uT (.d (AJ R))) [] vX):∃r,Quiet Tryz.prog hp ⟨dd,.build t vX.toArray,ty,ps,af,gd⟩ arg r/\uT r:=by
 obtain⟨r,B,R,L,V⟩:=Ka h;rw[Qa C]at L;exact⟨_,A2I J (A1v K) A B (JJ L),V⟩
theorem Nn{len n b Y C:Nat}(J:Tab P t (.array len U) n b z)(X:Tab P U d Y C v)(A:GP z.cells.toList=true)(E:exO z.cells.toList=some c)(h:PC hp arg (λr=>∃R,PT (λi=>some (i*Y,Y)) c r=some R/\uT (.d (AJ R))) [] vX):∃r,Quiet P hp ⟨dd,.build t vX.toArray,ty,ps,af,gd⟩ arg r/\uT r:=by
 obtain⟨r,B,R,L,V⟩:=Ka h;rw[Qa E]at L;exact⟨_,VJ J X A B (JJ L),V⟩
theorem Dj{len n b Y E:Nat}(J:Tab P t (.slice U) n b z)(X:Tab P U d Y E v)(G:Nat.blt 0 len=true)(C:Nat.blt 0 Y=true)(F:v.cells.size=Y)(I:Nat.ble (len*Y) 16777216=true)(A:GP v.cells.toList=true)(h:PC hp arg (λr=>∃R,PT (λi=>some (i*Y,Y)) (List.replicate (len*Y) Cs) r=some R/\uT (.d (slD U Y (EK Y len R)))) [] vX):∃r,Quiet P hp ⟨dd,.buildSlice t len vX.toArray,ty,ps,af,gd⟩ arg r/\uT r:=by
 obtain⟨r,B,R,L,V⟩:=Ka h;exact⟨_,KR J X (by simpa[Nat.blt_eq]using G) ZdL F (Nat.le_of_ble_eq_true I) A B (JJ L),V⟩
theorem CI(E:arg x=.d (AJ c))(J:Tab P t (.slice U) n b z)(X:Tab P U d T m v)(K:c.length=T)(C:Nat.blt 0 T=true)(G:v.cells.size=T)(I:Nat.ble T 16777216=true)(A:GP v.cells.toList=true):Quiet P hp ⟨dd,.buildSlice t 1 #[(0,x)],ty,ps,af,gd⟩ arg (.d (slD U T [c])):=by
 have F:(Nat.beq c.length T&&Nat.ble (0*T+T) (List.replicate (1*T) Cs).length)=true:=by
  simp[K]
 have p:FQ (λi=>some (i*T,T)) (List.replicate (1*T) Cs) [(0,c)]=some c:=by
  simp only[FQ];rw[F];simp only[cond_true,Rx,Option.some.injEq];rw[Nat.zero_mul,List.take_zero,List.nil_append,List.drop_eq_nil_of_le (by simp[K]),List.append_nil]
 have h:=KR (P:=P) (hp:=hp) (dd:=dd) (ty:=ty) (ps:=ps) (af:=af) (gd:=gd) (len:=1) (parts:=[(0,x)]) (r:=[(0,c)]) J X ZbK ZdL G (by have:=Nat.le_of_ble_eq_true I;omega) A (A0F E PartsA.nil) p
 have B:EK T 1 c=[c]:=by
  simp only[EK];rw[<-K,List.take_length]
 rwa [B]at h
theorem Hq{R:HR->Prop}(I:va.guard=none)(h:∃r,Quiet P vc.hp va (Eu vc um vE) r/\R (.av r)):∃r,HStep P vc um vE va r/\R r:=by
 obtain⟨r,A,B⟩:=h;exact⟨_,HStep.q I A,B⟩
end
section
variable {P:Program} {s0:An} {m:Nat} {ops:Array Oper} {Q:Exit->AS->Prop} {rest:List Oper} {σ:AS} {hp:List Ow} {arg:Operand->AV} {dd:Option Tmp} {ty:TypeId} {ps:String} {af:Array Edge} {gd:Option (Nat×Bool)} {R:AV->Prop} {H:HR->Prop} {acc:List HR} {e:List (Nat×Nat)}
theorem Fk(h:∃r,Quiet P hp ⟨dd,.move x,ty,ps,af,gd⟩ arg r/\R r):∃r,Quiet P hp ⟨dd,.move x,ty,ps,af,gd⟩ arg r/\R r:=h
theorem TO(h:∃r,HStep P σ acc e ⟨dd,.move x,ty,ps,af,gd⟩ r/\H r):∃r,HStep P σ acc e ⟨dd,.move x,ty,ps,af,gd⟩ r/\H r:=h
theorem Fw(h:∃r,Quiet P hp ⟨dd,.assign x,ty,ps,af,gd⟩ arg r/\R r):∃r,Quiet P hp ⟨dd,.assign x,ty,ps,af,gd⟩ arg r/\R r:=h
theorem So(h:∃r,HStep P σ acc e ⟨dd,.assign x,ty,ps,af,gd⟩ r/\H r):∃r,HStep P σ acc e ⟨dd,.assign x,ty,ps,af,gd⟩ r/\H r:=h
theorem OI(h:∃r,Quiet P hp ⟨dd,.load t x,ty,ps,af,gd⟩ arg r/\R r):∃r,Quiet P hp ⟨dd,.load t x,ty,ps,af,gd⟩ arg r/\R r:=h
theorem TP(h:∃r,HStep P σ acc e ⟨dd,.load t x,ty,ps,af,gd⟩ r/\H r):∃r,HStep P σ acc e ⟨dd,.load t x,ty,ps,af,gd⟩ r/\H r:=h
theorem GZ(h:∃r,Quiet P hp ⟨dd,.fieldAddr n x b,ty,ps,af,gd⟩ arg r/\R r):∃r,Quiet P hp ⟨dd,.fieldAddr n x b,ty,ps,af,gd⟩ arg r/\R r:=h
theorem Ja(h:∃r,HStep P σ acc e ⟨dd,.fieldAddr n x b,ty,ps,af,gd⟩ r/\H r):∃r,HStep P σ acc e ⟨dd,.fieldAddr n x b,ty,ps,af,gd⟩ r/\H r:=h
theorem Mt(h:∃r,Quiet P hp ⟨dd,.indexAddr t x y,ty,ps,af,gd⟩ arg r/\R r):∃r,Quiet P hp ⟨dd,.indexAddr t x y,ty,ps,af,gd⟩ arg r/\R r:=h
theorem IZ(h:∃r,HStep P σ acc e ⟨dd,.indexAddr t x y,ty,ps,af,gd⟩ r/\H r):∃r,HStep P σ acc e ⟨dd,.indexAddr t x y,ty,ps,af,gd⟩ r/\H r:=h
theorem XR(h:∃r,Quiet P hp ⟨dd,.call { callee:=.builtin .len,args:=uD,argTypes:=vr },ty,ps,af,gd⟩ arg r/\R r):∃r,Quiet P hp ⟨dd,.call { callee:=.builtin .len,args:=uD,argTypes:=vr },ty,ps,af,gd⟩ arg r/\R r:=h
theorem A2R(h:∃r,HStep P σ acc e ⟨dd,.call { callee:=.builtin .len,args:=uD,argTypes:=vr },ty,ps,af,gd⟩ r/\H r):∃r,HStep P σ acc e ⟨dd,.call { callee:=.builtin .len,args:=uD,argTypes:=vr },ty,ps,af,gd⟩ r/\H r:=h
theorem A64(h:∃r,Quiet P hp ⟨dd,.call { callee:=.builtin .max,args:=uD,argTypes:=vr },ty,ps,af,gd⟩ arg r/\R r):∃r,Quiet P hp ⟨dd,.call { callee:=.builtin .max,args:=uD,argTypes:=vr },ty,ps,af,gd⟩ arg r/\R r:=h
theorem VN(h:∃r,Quiet P hp ⟨dd,.call { callee:=.value x,args:=uD,argTypes:=vr },ty,ps,af,gd⟩ arg r/\R r):∃r,Quiet P hp ⟨dd,.call { callee:=.value x,args:=uD,argTypes:=vr },ty,ps,af,gd⟩ arg r/\R r:=h
theorem QH(h:∃r,HStep P σ acc e ⟨dd,.call { callee:=.value x,args:=uD,argTypes:=vr },ty,ps,af,gd⟩ r/\H r):∃r,HStep P σ acc e ⟨dd,.call { callee:=.value x,args:=uD,argTypes:=vr },ty,ps,af,gd⟩ r/\H r:=h
theorem XS(h:∃r,Quiet P hp ⟨dd,.binOp .add t x y U,ty,ps,af,gd⟩ arg r/\R r):∃r,Quiet P hp ⟨dd,.binOp .add t x y U,ty,ps,af,gd⟩ arg r/\R r:=h
theorem A2V(h:∃r,HStep P σ acc e ⟨dd,.binOp .add t x y U,ty,ps,af,gd⟩ r/\H r):∃r,HStep P σ acc e ⟨dd,.binOp .add t x y U,ty,ps,af,gd⟩ r/\H r:=h
theorem A2O(h:∃r,Quiet P hp ⟨dd,.binOp .sub t x y U,ty,ps,af,gd⟩ arg r/\R r):∃r,Quiet P hp ⟨dd,.binOp .sub t x y U,ty,ps,af,gd⟩ arg r/\R r:=h
theorem A2Q(h:∃r,HStep P σ acc e ⟨dd,.binOp .sub t x y U,ty,ps,af,gd⟩ r/\H r):∃r,HStep P σ acc e ⟨dd,.binOp .sub t x y U,ty,ps,af,gd⟩ r/\H r:=h
theorem A63(h:∃r,Quiet P hp ⟨dd,.binOp .quo t x y U,ty,ps,af,gd⟩ arg r/\R r):∃r,Quiet P hp ⟨dd,.binOp .quo t x y U,ty,ps,af,gd⟩ arg r/\R r:=h
theorem A2P(h:∃r,Quiet P hp ⟨dd,.binOp .rem t x y U,ty,ps,af,gd⟩ arg r/\R r):∃r,Quiet P hp ⟨dd,.binOp .rem t x y U,ty,ps,af,gd⟩ arg r/\R r:=h
theorem XU(h:∃r,HStep P σ acc e ⟨dd,.binOp .rem t x y U,ty,ps,af,gd⟩ r/\H r):∃r,HStep P σ acc e ⟨dd,.binOp .rem t x y U,ty,ps,af,gd⟩ r/\H r:=h
theorem A73(h:∃r,Quiet P hp ⟨dd,.binOp .or t x y U,ty,ps,af,gd⟩ arg r/\R r):∃r,Quiet P hp ⟨dd,.binOp .or t x y U,ty,ps,af,gd⟩ arg r/\R r:=h
theorem HD(h:∃r,Quiet P hp ⟨dd,.binOp vU t x y U,ty,ps,af,gd⟩ arg r/\R r):∃r,Quiet P hp ⟨dd,.binOp vU t x y U,ty,ps,af,gd⟩ arg r/\R r:=h
theorem A2T(h:∃r,HStep P σ acc e ⟨dd,.binOp vU t x y U,ty,ps,af,gd⟩ r/\H r):∃r,HStep P σ acc e ⟨dd,.binOp vU t x y U,ty,ps,af,gd⟩ r/\H r:=h
theorem A72{L:UnOp}(h:∃r,Quiet P hp ⟨dd,.unOp L t x,ty,ps,af,gd⟩ arg r/\R r):∃r,Quiet P hp ⟨dd,.unOp L t x,ty,ps,af,gd⟩ arg r/\R r:=h
theorem A4P{L:UnOp}(h:∃r,HStep P σ acc e ⟨dd,.unOp L t x,ty,ps,af,gd⟩ r/\H r):∃r,HStep P σ acc e ⟨dd,.unOp L t x,ty,ps,af,gd⟩ r/\H r:=h
theorem A65(h:∃r,Quiet P hp ⟨dd,.extract x n,ty,ps,af,gd⟩ arg r/\R r):∃r,Quiet P hp ⟨dd,.extract x n,ty,ps,af,gd⟩ arg r/\R r:=h
theorem A2S(h:∃r,HStep P σ acc e ⟨dd,.extract x n,ty,ps,af,gd⟩ r/\H r):∃r,HStep P σ acc e ⟨dd,.extract x n,ty,ps,af,gd⟩ r/\H r:=h
theorem Ms(h:∃r,Quiet P hp ⟨dd,.pick x y vN,ty,ps,af,gd⟩ arg r/\R r):∃r,Quiet P hp ⟨dd,.pick x y vN,ty,ps,af,gd⟩ arg r/\R r:=h
theorem Zh(h:∃r,HStep P σ acc e ⟨dd,.pick x y vN,ty,ps,af,gd⟩ r/\H r):∃r,HStep P σ acc e ⟨dd,.pick x y vN,ty,ps,af,gd⟩ r/\H r:=h
theorem VO(h:∃r,Quiet P hp ⟨dd,.build t uU,ty,ps,af,gd⟩ arg r/\R r):∃r,Quiet P hp ⟨dd,.build t uU,ty,ps,af,gd⟩ arg r/\R r:=h
theorem QI(h:∃r,HStep P σ acc e ⟨dd,.build t uU,ty,ps,af,gd⟩ r/\H r):∃r,HStep P σ acc e ⟨dd,.build t uU,ty,ps,af,gd⟩ r/\H r:=h
theorem A0I(h:∃r,Quiet P hp ⟨dd,.buildSlice n b uU,ty,ps,af,gd⟩ arg r/\R r):∃r,Quiet P hp ⟨dd,.buildSlice n b uU,ty,ps,af,gd⟩ arg r/\R r:=h
theorem Nl(h:∃r,HStep P σ acc e ⟨dd,.buildSlice n b uU,ty,ps,af,gd⟩ r/\H r):∃r,HStep P σ acc e ⟨dd,.buildSlice n b uU,ty,ps,af,gd⟩ r/\H r:=h
theorem A4q(h:∃r,Quiet P hp ⟨dd,.convert t U x,ty,ps,af,gd⟩ arg r/\R r):∃r,Quiet P hp ⟨dd,.convert t U x,ty,ps,af,gd⟩ arg r/\R r:=h
theorem TQ(h:∃r,HStep P σ acc e ⟨dd,.convert t U x,ty,ps,af,gd⟩ r/\H r):∃r,HStep P σ acc e ⟨dd,.convert t U x,ty,ps,af,gd⟩ r/\H r:=h
theorem A2U(h:∃r,HStep P σ acc e ⟨dd,.alloc t,ty,ps,af,gd⟩ r/\H r):∃r,HStep P σ acc e ⟨dd,.alloc t,ty,ps,af,gd⟩ r/\H r:=h
theorem VP(h:AWl P s0 m ops Q (⟨dd,.alloc t,ty,ps,af,gd⟩::rest) σ):AWl P s0 m ops Q (⟨dd,.alloc t,ty,ps,af,gd⟩::rest) σ:=h
theorem QJ(h:AWl P s0 m ops Q (⟨dd,.store t x y,ty,ps,af,gd⟩::rest) σ):AWl P s0 m ops Q (⟨dd,.store t x y,ty,ps,af,gd⟩::rest) σ:=h
theorem A2X(h:AWl P s0 m ops Q (⟨dd,.box t x,ty,ps,af,gd⟩::rest) σ):AWl P s0 m ops Q (⟨dd,.box t x,ty,ps,af,gd⟩::rest) σ:=h
theorem A67(h:AWl P s0 m ops Q (⟨dd,.call { callee:=.builtin .append,args:=uD,argTypes:=vr },ty,ps,af,gd⟩::rest) σ):AWl P s0 m ops Q (⟨dd,.call { callee:=.builtin .append,args:=uD,argTypes:=vr },ty,ps,af,gd⟩::rest) σ:=h
theorem A74(h:AWl P s0 m ops Q (⟨dd,.makeSlice t x y,ty,ps,af,gd⟩::rest) σ):AWl P s0 m ops Q (⟨dd,.makeSlice t x y,ty,ps,af,gd⟩::rest) σ:=h
theorem A4Q(h:AWl P s0 m ops Q (⟨dd,.buildSlice t 0 #[],ty,ps,af,gd⟩::rest) σ):AWl P s0 m ops Q (⟨dd,.buildSlice t 0 #[],ty,ps,af,gd⟩::rest) σ:=h
theorem Jb{A y:Code}(h:AWp P s0 m (.cond x A y) Q σ):AWp P s0 m (.cond x A y) Q σ:=h
end
end
end Go.Proofs.YtcikkglcoeedlaaGreat
