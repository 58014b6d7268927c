/- Part 7. No condition. -/
import Derived.Deep.LoopGhost
import Derived.Test.YtcikkglcoeedlaaGreatDm5
import Derived.Test.YtcikkglcoeedlaaGreatDm6
set_option linter.all false
set_option maxRecDepth 100000
set_option maxHeartbeats 2000000
namespace Go.Proofs.YtcikkglcoeedlaaGreat
open _root_.Go.Proofs.Tryz
open Go.RowKit
variable{a j:Int}{l g vo vY:List Nat}{n b T m c k:Nat}{uz:Option Addr}{vD uV:Rat}{t:TypeId}{z u:Value}{w p uG:World}
theorem LU:∀(f x:Nat),x<2^f->x<2^(Lib.bitLenAux f x)/\(x≠0->2^(Lib.bitLenAux f x)<=2*x)
 |0,x,h=>by
  have:x=0:=by simpa using h
  subst this;exact⟨by simp[Lib.bitLenAux],λh=>absurd rfl h⟩
 |f+1,x,h=>by
  unfold Lib.bitLenAux;by_cases C:x=0
  .subst C;exact⟨by simp,λh=>absurd rfl h⟩
  .rw [Yaj C]
   obtain⟨q,A⟩:=LU f (x/2) (by rw[Ybt]at h;omega);have e:2^(1+Lib.bitLenAux f (x/2))=2*2^(Lib.bitLenAux f (x/2)):=by rw[YcL]
   refine⟨by rw[e];omega,λ_=>?_⟩;rw[e];by_cases c:x/2=0
   .have B:x=1:=by omega
    subst B
    have:Lib.bitLenAux f (1/2)=0:=by
     show Lib.bitLenAux f 0=0;cases f<;>simp[Lib.bitLenAux]
    rw[this];omega
   .have:=A c;omega
theorem A3F(c:0<n)(q:n<4294967296):∃s:Nat,(32:Int)-(Lib.bitLen n:Int)=s/\s<32/\2147483648<=n*2^s/\(n+1)*2^s<=4294967296:=by
 have a:=LU 64 n ZbC;have E:Lib.bitLen n=Lib.bitLenAux 64 n:=rfl;rw[<-E]at a;generalize Lib.bitLen n=k at a;obtain⟨A,K⟩:=a;have K:=K ZbC
 have Z:k<=32:=by
  rcases YaI 32 k with h | h
  .have:2^33<=2^k:=Ybo ZbC h
   have e:(2:Nat)^33=8589934592:=by decide
   omega
  .exact h
 have C:1<=k:=by
  rcases YaB k with h | h
  .subst h;simp at A;omega
  .exact h
 refine⟨32-k,by omega,by omega,?_,?_⟩
 .have Q:2^k*2^(32-k)=4294967296:=by rw [<-YcL, show k+(32-k)=32 by omega]
  have B:2^k*2^(32-k)<=2*n*2^(32-k):=YaC _ K;rw[Q,Yba]at B;omega
 .have Q:2^k*2^(32-k)=4294967296:=by rw [<-YcL, show k+(32-k)=32 by omega]
  have B:(n+1)*2^(32-k)<=2^k*2^(32-k):=YaC _ A;omega
theorem DQ{y n:Nat}(h:(Aw y).length=n+1):0<(Aw y).getD n 0:=by
 induction n generalizing y with
 |zero=>
  have M:y≠0:=by rintro rfl;rw[BJ]at h;simp at h
  rw[Fl M]at h ⊢;have c:(Aw (y/BB)).length=0:=by simpa using h
  have q:=Br.1 c
  have A:y<BB:=by
   rcases YaI y BB with h | h
   .exact h
   .have:=YeT h CS;omega
  simp[YaV A];omega
 |succ n u=>
  have M:y≠0:=by rintro rfl;rw[BJ]at h;simp at h
  rw[Fl M]at h ⊢;have:=u (y:=y/BB) Zdj;exact ZjY
theorem XV{y n s t:Nat}(I:(Aw y).length=n+1)(L:(Aw y).getD n 0=t)(Y:l.length=n+2)(v:BK l)(r:val l=2^s*y)(q:2147483648<=t*2^s)(A:(t+1)*2^s<=4294967296) :
  val (l.take (n+1))=2^s*y/\2147483648<=l.getD n 0:=by
 have z:=Ej I;rw[AK,L]at z
 have w:val ((Aw y).take n)<BB^n:=by
  have:=Ei (Dj (BG y) n);exact ZjZ
 have C:2^s*y<BB^(n+1):=by
  have K:y+1<=BB^n*(t+1):=Zhy
  have Q:2^s*(y+1)<=2^s*(BB^n*(t+1)):=Yas _ K;have k:2^s*(BB^n*(t+1))=BB^n*((t+1)*2^s):=by rw[Ybm,YaM (2^s)]
  have B:BB^n*((t+1)*2^s)<=BB^n*BB:=Yas _ (by rw[BF];exact A);have g:0<2^s:=Ydf s;rw[Ybt];rw[YaG]at Q;omega
 have W:=Ej Y
 have c:l.getD (n+1) 0=0:=by
  rcases YaB (l.getD (n+1) 0)with h | h
  .exact h
  .exfalso
   have:BB^(n+1)*1<=BB^(n+1)*l.getD (n+1) 0:=Yas _ h;omega
 rw[c,Ycz,Ybf]at W;refine⟨by rw[<-W,r],?_⟩;have o:=Bf l n;rw[<-W,r]at o;have K:BB^n*t<=y:=by omega
 have Q:2^s*(BB^n*t)<=2^s*y:=Yas _ K;have k:2^s*(BB^n*t)=BB^n*(t*2^s):=by rw[Ybm,YaM (2^s)]
 have B:BB^n*2147483648<=BB^n*(t*2^s):=Yas _ q
 have g:val (l.take n)<BB^n:=by
  have:=Ei (Dj v n);exact ZjZ
 have x:BB^n*2147483648<BB^n*(l.getD n 0+1):=Zhy
 have:=Ybw x;omega
def DivRel(w wr:World)(R S p:Nat)(e c U Q:List Nat)(m n k:Nat):Prop:=
 U.length=m+1/\BK U/\Blk wr R 335 (wv U)/\Q.length=m-n+1/\BK Q/\Blk wr p 335 (wv Q)/\Blk wr S 335 (wv c) /\
 val (e.drop k)=val (Q.drop k)*val (c.take n)+val (U.drop k)/\U.take k=e.take k/\val (U.drop k)<val (c.take n)/\Ext w wr
theorem IK(U:List Nat)(k j:Nat)(h:k+j<=U.length):val (U.drop k)=val ((U.drop k).take j)+BB^j*val (U.drop (k+j)):=by
 have q:U.drop k=(U.drop k).take j++(U.drop k).drop j:=(YbV j _).symm;rw[Ydp]at q;have A:((U.drop k).take j).length=j:=ZiI
 calc val (U.drop k) = val ((U.drop k).take j ++ U.drop (k + j)) := by rw [← q]
  _=_:=by rw[IL,A]
theorem DivRel.window(h:DivRel w p n b T l g vo vY m c (k+1))(B:k+c<=m)(C:2<=c)(U:c<=g.length)(f:BK g) :
  ∃x post,x.length=c+1/\BK x/\Win p n (vo.take k) x post/\val x<BB*val (g.take c)/\val post=0/\vo=vo.take k++x++post/\val x=vo.getD k 0+BB*val (vo.drop (k+1))/\(vo.take k).length=k:=by
 obtain⟨q,A,K,Q,E,F,G,I,S,X,v⟩:=h
 have O:vo=vo.take k++(vo.drop k).take (c+1)++vo.drop (k+(c+1)):=by
  exact Zkb
 have V:val (g.take c)<BB^c:=by
  have:=Ei (Dj f c);rwa [YaO,Yby U]at this
 have W:=Ed (l:=vo) (k:=k) ZbC;have o:=IK vo k (c+1) ZbC;have Y:=Be A k
 have N:val (vo.drop k)<BB*val (g.take c):=by
  have:BB*(val (vo.drop (k+1))+1)<=BB*val (g.take c):=Yas _ X;rw[YaG]at this;omega
 have M:val (vo.drop (k+(c+1)))=0:=by
  rcases YaB (val (vo.drop (k+(c+1))))with h | h
  .exact h
  .exfalso
   have J:BB^(c+1)*1<=BB^(c+1)*val (vo.drop (k+(c+1))):=Yas _ h;have L:BB*val (g.take c)<=BB*BB^c:=Yas _ (Yca V);have y:BB^(c+1)=BB*BB^c:=by rw[Ybt,YaM]
   omega
 rw[M,Ycz,Ybf]at o;refine⟨(vo.drop k).take (c+1),vo.drop (k+(c+1)),by simp;omega,Dj (RS A k) _,?_,by rw[<-o];exact N,M,O,by rw[<-o];exact W,by simp;omega⟩;unfold Win;rw[<-O];exact K
theorem HV(h:val g=0):val (l++g)=val l:=by rw[IL,h,Ycz,Ybf]
theorem DivRel.step{f l U Q x c post:List Nat}{m A k q:Nat}(h:DivRel w p n b T f l U Q m A (k+1))(E:k+A<=m)(z:f.length=m+1)(F:x.length=A+1)(hU:U=U.take k++x++post)(j:(U.take k).length=k)(o:val post=0)(H:val x=U.getD k 0+BB*val (U.drop (k+1)))
  (s:c.length=A+1) (xa:BK c) (Y:Win uG n (U.take k) c post) (P:Only n p uG) (S:q<BB) (Iw:val c+q*val (l.take A)=val x) (O:val c<val (l.take A)) (u:w.heap.size<=n) (R:T≠n) (r:b≠n) (xb:b≠T) (xf:w.heap.size<=T) {e:Int} (I:e=(q:Nat)) :
  DivRel w (uG.setCell ⟨T,k,none⟩ (.int .u32 e)) n b T f l (U.take k++c++post) (Q.set k q) m A k:=by
 obtain⟨B,C,K,G,N,V,g,X,Z,a,v⟩:=h;have sU:BK (U.take k):=Dj C k;have sp:BK post:=λy M=>C y (by rw[hU];simp[M]);have t:k<U.length:=by omega
 have xc:Blk uG T 335 (wv Q):=(P.block T (Blk.lt V) R).trans V;have xg:Blk uG b 335 (wv l):=(P.block b (Blk.lt g) r).trans g
 have d:(U.take k++c++post).drop k=c++post:=by
  exact ZhK
 have L:(U.take k++c++post).take k=U.take k:=by
  exact ZhG
 have xe:f.take k=U.take k:=by
  have:(U.take (k+1)).take k=(f.take (k+1)).take k:=by rw[Z]
  exact Zig
 have xd:f.getD k 0=U.getD k 0:=by
  have:(U.take (k+1)).getD k 0=(f.take (k+1)).getD k 0:=by rw[Z]
  exact ZhH
 refine⟨?_,?_,?_,by simpa using G,Dq N k S,?_,?_,?_,?_,?_,?_⟩
 .have W:(U.take k++x++post).length=m+1:=by rw [<-hU];exact B
  simp only[Yac]at W ⊢;omega
 .intro y M
  rcases YbW.1 M with M | M
  .rcases YbW.1 M with M | M
   .exact sU y M
   .exact xa y M
  .exact sp y M
 .exact Blk.far Y (by exact λe=>R e.symm) _
 .rw [I,<-JD];exact xc.set k _
 .exact xg.far (by exact xb) _
 .rw [d, HV o, Ed (l:=f) ZbC, Ed (l:=Q.set k q) (by rw [YbL]; omega), LM, Cq ZbC, X, xd]
  have:BB*(val (Q.drop (k+1))*val (l.take A)+val (U.drop (k+1)))=BB*val (Q.drop (k+1))*val (l.take A)+BB*val (U.drop (k+1)):=by rw[YaG,Yba]
  rw[this,YbG];omega
 .rw [L,xe]
 .rw [d,HV o];exact O
 .refine Ext.set ?_ xf _
  exact⟨P.os.trans v.os,P.tape.trans v.tape,P.output.trans v.output,Yau v.size P.size,λi J=>(P.block i (Yaq J v.size) ZbC).trans (v.block J)⟩
theorem A3Q{x y m n s:Nat}(C:(Aw x).length=m)(M:(Aw y).length=n+1)(i:n+1<=m)(c:l.length=m+1)(E:val l=2^s*x)(r:val (g.take (n+1))=2^s*y):val (l.drop (m-(n+1)+1))<val (g.take (n+1)):=by
 have q:x<BB^m:=by have:=Ei (BG x);rwa [AK,C]at this
 have A:BB^n<=y:=by
  have e:=Ej M;rw[AK]at e;have:=DQ M;have K:BB^n*1<=BB^n*(Aw y).getD n 0:=Yas _ this;omega
 have W:m-(n+1)+1=m-n:=by omega
 rw[W,r]
 have K:val l=val (l.take (m-n))+BB^(m-n)*val (l.drop (m-n)):=by
  have:=IL (l.take (m-n)) (l.drop (m-n));exact ZhS
 have a:=Ydf s;have Q:2^s*x<2^s*BB^m:=Ydn q a
 have k:2^s*BB^m=BB^(m-n)*(2^s*BB^n):=by
  rw[Ybm,<-YcL,show m-n+n=m by omega]
 have B:BB^(m-n)*val (l.drop (m-n))<BB^(m-n)*(2^s*BB^n):=by omega
 have F:=Ybw B;have G:2^s*BB^n<=2^s*y:=Yas _ A;omega
theorem A3R{a b s q r:Nat}(E:0<b)(h:2^s*a=q*(2^s*b)+r)(Y:r<2^s*b):a/b=q/\r/2^s=a%b:=by
 have C:0<2^s:=Ydf s
 have A:(2^s*a)/(2^s*b)=q:=by
  rw[h,YaM q,YcU (Yda C E),YbK Y,Ybf]
 have B:(2^s*a)%(2^s*b)=r:=by
  exact Zkc
 rw[Nat.mul_div_mul_left _ _ C]at A;rw[Nat.mul_mod_mul_left]at B;refine⟨A,?_⟩;rw[<-B,YdC _ C]
def LV(x y:Nat)(w:World)(e:Ending)(N:World):Prop:=
 ∃(A O:Option Addr) (n c h l:Nat),e=.returned (.tuple #[.slice A n c,.slice O h l])/\Words N (.slice A n c) (Aw (x/y))/\Words N (.slice O h l) (Aw (x%y))/\Ext w N
theorem Words.form{v:Value}(h:Words w v l):∃A n c,v=.slice A n c:=by
 obtain⟨A,c,rfl,_⟩:=h;exact⟨A,_,c,rfl⟩
theorem A3P(s a:Value)(Z y:List Nat)(w:World)(t:Words w s Z)(E:Words w a y)(g:Z.length<=4398046511104)(O:val Z<val y) :
  Calls prog 319 #[s,a] w (LV (val Z) (val y) w):=by
 have R:=Af t.small;have G:=Af E.small;replace t:=Af t;replace E:=Af E;have K:FE (val Z) (val y)<0:=by unfold FE;rw[Yao O];omega
 have o:Hid ((Aw (val Z)).length<=35184372088832):=by
  have q:(El Z).length<=Z.length:=Io Z;rw[Bn R.out]at q;show _<=_;omega
 replace g:=Af g;replace O:=Af O;go_enter func319,ntmps319;go_wp2_with fail;refine(Ek _ _ _ t.out).mono ?_;rintro e k ⟨F,rfl,I,Q⟩;rw[Bn R.out]at I;replace I:=Af I;replace Q:=Af Q;go_wp2_with fail;refine(Ek _ _ _ (E.out.ext Q.out)).mono ?_;rintro e N ⟨m,rfl,j,T⟩;rw[Bn G.out]at j;replace I:=Af (I.out.ext T);replace T:=Af (Q.out.trans T);replace j:=Af j;go_wp2_with fail;refine(Jv _ _ _ _ _ I.out j.out).mono ?_;rintro e X ⟨rfl,A⟩;replace I:=Af (I.out.ext A);replace A:=Af (T.out.trans A);go_wp2_with fail;refine(MB _ _ _ I.out o.out).mono ?_;rintro e J ⟨L,rfl,B,x⟩;obtain⟨v,p,C,rfl⟩:=B.form;replace B:=Af B;replace x:=Af (A.out.trans x);go_wp2;go_ret2;refine⟨_,_,_,_,_,_,rfl,?_,?_,x.out⟩
 .exact Zje
 .rw [YaV O.out];exact B.out
theorem A0Z(s a:Value)(Z y:List Nat)(w:World)(A:Words w s Z)(E:Words w a y)(g:Z.length<=4398046511104)(S:val y<=val Z)(q:(Aw (val y)).length=1) :
  Calls prog 319 #[s,a] w (LV (val Z) (val y) w):=by
 have R:=Af A.small;have c:=Af E.small;replace A:=Af A;replace E:=Af E;have P:¬FE (val Z) (val y)<0:=by unfold FE;rw[Yaj ZbC];split<;>omega
 have o:Hid ((Aw (val Z)).length<=4398046511104):=by
  have q:(El Z).length<=Z.length:=Io Z;rw[Bn R.out]at q;show _<=_;omega
 obtain⟨t,L⟩:∃t,Aw (val y)=[t]:=by
  match d:Aw (val y),q with
  |[t],_=>exact⟨t,rfl⟩
 have xa:Hid (val y=t):=by
  show val y=t;rw[<-AK (val y),L];simp[val]
 have n:t<4294967296:=by
  have:=BG (val y) t (by rw[L];simp);rwa [BF]at this
 have U:0<t:=by
  have:=DQ (y:=val y) (n:=0) q;rw[L]at this;exact ZjY
 replace g:=Af g;replace S:=Af S;clear q;replace L:=Af L;go_enter func319,ntmps319;go_wp2_with fail;refine(Ek _ _ _ A.out).mono ?_;rintro e k ⟨V,rfl,I,Q⟩;rw[Bn R.out]at I;replace I:=Af I;replace Q:=Af Q;go_wp2_with fail;refine(Ek _ _ _ (E.out.ext Q.out)).mono ?_;rintro e N ⟨z,rfl,j,T⟩;rw[Bn c.out]at j;replace I:=Af (I.out.ext T);replace T:=Af (Q.out.trans T);replace j:=Af j;go_wp2_with fail;refine(Jv _ _ _ _ _ I.out j.out).mono ?_;rintro e X ⟨rfl,C⟩;replace I:=Af (I.out.ext C);replace j:=j.out.ext C;replace C:=Af (T.out.trans C);rw[L.out]at j;obtain⟨b,F,rfl,M,u,W⟩:=j.open_;obtain⟨B,O,rfl,r,f⟩:=W ZbR;replace f:X.cell? ⟨B,O,none⟩=some (.int .u32 (t:Nat)):=f 0 ZbR;clear W j;go_wp2_with fail;refine(QS _ _ t _ I.out o.out U n).mono ?_;rintro e i ⟨v4,rfl,G,x⟩;obtain⟨v,p,J,rfl⟩:=G.form;replace G:=Af G;replace x:=Af (C.out.trans x);have K:val (Aw (val Z))%t<18446744073709551616:=by have:=YaR (val (Aw (val Z))) U;omega
 replace K:=Af K;clear f;go_wp2_with fail;refine(OV _ _ K.out).mono ?_;rintro e l ⟨v5,rfl,m,Y⟩;obtain⟨H,n5,h,rfl⟩:=m.form;replace G:=Af (G.out.ext Y);replace m:=Af m;replace Y:=Af (x.out.trans Y);go_wp2;go_ret2;refine⟨_,_,_,_,_,_,rfl,?_,?_,Y.out⟩
 .have:=G.out;rw[AK]at this;rw[xa.out];exact this
 .have:=m.out;rw[AK]at this;rw[xa.out];exact this
theorem QO(b M n T E k:Nat)(pre post u v:List Nat)(w:World)(B:pre.length=k)(q:Win w b pre u post)(Q:u.length=n+1)(r:n<=v.length)(C:2<=n)(g:n<=4398046511104)(A:BK u)(f:BK v)(G:M≠b)
  (R:Blk w M 335 (wv v)) (F:n+1<=T) (t:n<=E) (W:2147483648<=v.getD (n-1) 0) (O:val u<BB*val (v.take n)) :
  Calls prog 328 #[.slice (some ⟨b,k,none⟩) (n+1) T,.slice (some ⟨M,0,none⟩) n E] w (A73 w b pre post u (v.take n)):=by
 subst B;refine Pf b M 0 n T E pre post u (v.take n) w q Q ZiI C g A (Dj f n) G (λi J=>?_) F t ?_ O
 .rw [YaH, R.cell, Ec ZbC]
  simp[J]
 .simp only[Yaa,YaK]at W ⊢
  rw[Yao ZbC];exact W
set_option maxRecDepth 1000000 in
theorem A12(R vb:Value)(X y:List Nat)(w:World)(O:Words w R X)(F:Words w vb y)(J:X.length<=4398046511104)(xi:val y<=val X)(C:2<=(Aw (val y)).length) :
  Calls prog 319 #[R,vb] w (LV (val X) (val y) w):=by
 have xm:=Af O.small;have xx:=Af F.small;replace O:=Af O;replace F:=Af F;have xX:¬FE (val X) (val y)<0:=by unfold FE;rw[Yaj ZbC];split<;>omega
 have d:(Aw (val X)).length<=4398046511104:=by
  have B:(El X).length<=X.length:=Io X;rw[Bn xm.out]at B;omega
 have H:=BP xi;obtain⟨n,f⟩:∃n,(Aw (val y)).length=n+1:=⟨(Aw (val y)).length-1,by omega⟩;obtain⟨m,xa⟩:∃m,(Aw (val X)).length=m:=⟨_,rfl⟩;have xK:=DQ f;have xL:=Be (BG (val y)) n;generalize L:(Aw (val y)).getD n 0=t at *;unfold BB at xL;obtain⟨s,xs,a,xw,yf⟩:=A3F xK xL;rw[xa]at d H;rw[f]at H C;have xu:1<=n:=by omega
 clear C J;replace L:=Af L;replace f:=Af f;replace xa:=Af xa;replace xi:=Af xi;replace xw:=Af xw;replace yf:=Af yf;replace xs:=Af xs;have xv:=λW=>CB (m-(n+1)+1) ZbC .i64 .i64 W;have xF:((m-(n+1)+1:Nat):Int)=(m:Int)-((n:Int)+1)+1:=by omega
 rw[xF]at xv;clear xF;go_enter func319,ntmps319;go_wp2_with fail;refine(Ek _ _ _ O.out).mono ?_;rintro e Y ⟨v1,rfl,l,z⟩;rw[Bn xm.out]at l;replace l:=Af l;replace z:=Af z;go_wp2_with fail;refine(Ek _ _ _ (F.out.ext z.out)).mono ?_;rintro e r ⟨v2,rfl,P,T⟩;rw[Bn xx.out]at P;replace l:=Af (l.out.ext T);replace T:=Af (z.out.trans T);replace P:=Af P;go_wp2_with fail;refine(Jv _ _ _ _ _ l.out P.out).mono ?_;rintro e w3 ⟨rfl,xb⟩;replace l:=l.out.ext xb;replace P:=P.out.ext xb;replace xb:=Af (T.out.trans xb);obtain⟨A1,V,rfl,xk,yu,xo⟩:=l.open_;clear xo;obtain⟨A2,j,rfl,xd,xU,xq⟩:=P.open_;obtain⟨b2,o2,rfl,xf,xy⟩:=xq (by rw[f.out];omega);replace xy:w3.cell? ⟨b2,o2+n,none⟩=some (.int .u32 (t:Nat)):=by have:=xy n (by rw[f.out];omega);exact ZiN
 clear xq;rw[f.out]at xd ⊢;rw[xa.out]at xk ⊢;replace l:=Af l;replace P:=Af P;have yv:(((n+1:Nat):Int)==1)=false:=ZiI
 go_wp2_with fail;refine(Go.Proofs.Tryz.bits_LeadingZeros32 _ _ ZbC ZbC).mono ?_;rintro e w3 ⟨rfl,rfl⟩;rw[YdK,xs.out];have yi:Hid (Words w3 (.slice A1 m V) (Aw (val X))):=by have:=l.out;rw[xa.out]at this;exact this
 have yj:Hid (Words w3 (.slice (some ⟨b2,o2,none⟩) (n+1) j) (Aw (val y))):=by have:=P.out;rw[f.out]at this;exact this
 clear l P xy;go_wp2_with fail;refine(MY _ _ s _ yi.out (by rw[xa.out];exact d) a).mono ?_;rintro e w4 ⟨gu,ul,rfl,xH,xZ,xG,xA,xY,xg⟩;rw[xa.out]at xH ⊢;have P:=Af (yj.out.ext xg);clear yi yj;go_wp2_with fail;refine(MY _ _ s _ P.out (by rw[f.out];omega) a).mono ?_;rintro e w5 ⟨gv,vl,rfl,xn,xV,xB,ya,xN,xt⟩;have yk:gv≠gu:=by have:=Blk.lt xA;omega
 rw[f.out]at xn ⊢;clear P;rw[AK]at xY xN;have u:=Af (XV f.out L.out xn xV xN xw.out yf.out);replace xA:=xA.ext xt;replace xt:=xb.out.trans (xg.trans xt);replace xH:=Af xH;replace xn:=Af xn;replace xZ:=Af xZ;replace xV:=Af xV;replace xY:=Af xY;replace xN:=Af xN;replace xA:=Af xA;replace ya:=Af ya;replace xt:=Af xt;have yB:=Blk.lt xA.out;have yC:=Blk.lt ya.out;have yd:w.heap.size<=gu:=Yau xb.out.size xG;have yg:=xt.out.size;replace yd:=Af yd;replace yg:=Af yg;clear xg xG xB;go_wp2;go_loopw [13] (λi wr=>∃(k:Nat) (U Q:List Nat),k<=m-(n+1)+1/\i=.int .i64 ((k:Int)-1)/\Hid (DivRel w wr gu gv w5.heap.size ul vl U Q m (n+1) k)) (λi _=>(intOf i+1).toNat)
 case atStart=>
  refine⟨m-(n+1)+1,ul,List.replicate (m-(n+1)+1) 0,Yai _,by congr 1;omega,xH.out,xZ.out,xA.out.alloc _,by simp,Cv _,Blk.new _ _ _,ya.out.alloc _,?_,rfl,?_,xt.out.alloc _⟩
  .exact ZaC
  .exact A3Q xa.out f.out H xH.out xY.out u.out.1
 case round=>
  obtain⟨k,U,Q,E,rfl,S⟩:=hrel;by_cases xj:k=0
  .subst xj
   have xM:Hid (Words wr (.slice (some ⟨w5.heap.size,0,none⟩) (m-(n+1)+1) (m-(n+1)+1)) Q):=by
    have:=CJ (c:=m-(n+1)+1) S.out.2.2.2.2.2.1 S.out.2.2.2.2.1 (by rw[S.out.2.2.2.1];omega) ZbC;rw[S.out.2.2.2.1]at this;exact this
   have ys:Hid ((U.take (n+1)).length=n+1):=by show _=_;rw[YaO,S.out.1];omega
   have xJ:Hid (Words wr (.slice (some ⟨gu,0,none⟩) (n+1) (m+1)) (U.take (n+1))):=by
    have:=CJ (c:=m+1) S.out.2.2.1 S.out.2.1 Zed ZbC;have:=this.take (k:=n+1) Zed;exact this
   have xc:Hid (val X/val y=val Q/\val (U.take (n+1))/2^s=val X%val y):=by
    have B:=S.out.2.2.2.2.2.2.2.1;have C:=S.out.2.2.2.2.2.2.2.2.2.1;simp only[YaW]at B C;rw[xY.out,u.out.1]at B;rw[u.out.1]at C
    have xT:0<val y:=by
     rcases YaB (val y)with h | h
     .have:=f.out;rw[h,BJ]at this;simp at this
     .exact h
    have yt:val (U.take (n+1))=val U:=by
     have e:=IK U 0 (n+1) Zed;simp only[YaW,YaH]at e
     have yb:2^s*val y<BB^(n+1):=by
      rw[<-u.out.1];have:=Ei (Dj xV.out (n+1));rwa [YaO,xn.out,Yby ZbC]at this
     rcases YaB (val (U.drop (n+1)))with h | h
     .rw [h,Ycz,Ybf]at e;exact e.symm
     .exfalso
      have:BB^(n+1)*1<=BB^(n+1)*val (U.drop (n+1)):=Yas _ h;omega
    rw[yt];exact A3R xT B C
   go_wp2
   refine wp_region_v ZbG [[], [(81, 0)], [], [], [(83, 2), (84, 3)], [], [(85, 4), (86, 5)]] [[], [0], [], [], [2, 3], [], [0, 1, 2, 3, 4, 5]]
    [λv _=>v=.slice (some ⟨w5.heap.size,0,none⟩) (m-(n+1)+1) (m-(n+1)+1),λv N=>∃A n c,v=.slice A n c/\Words N (.slice A n c) (Aw (val X/val y)),λv _=>v=.slice (some ⟨gu,0,none⟩) (m+1) (m+1),λv _=>v=.int .i64 ((n:Int)+1),λv _=>v=.slice (some ⟨gu,0,none⟩) (n+1) (m+1),λv _=>v=.int .i64 (s:Int),λv N=>∃A n c,v=.slice A n c/\Words N (.slice A n c) (Aw (val X%val y))]
    rfl ZbG ZbG ?stab ?steps ?fin
   case stab=>exact .cons (Stab.eq _) (.cons (λ_ _ _ b ⟨A,n,c,B,C⟩=>⟨A,n,c,B,C.ext b⟩) (.cons (Stab.eq _) (.cons (Stab.eq _) (.cons (Stab.eq _) (.cons (Stab.eq _) (.cons (λ_ _ _ b ⟨A,n,c,B,C⟩=>⟨A,n,c,B,C.ext b⟩) .nil))))))
   case steps=>
    refine .cons ?s0 (.cons ?s1 (.cons ?s2 (.cons ?s3 (.cons ?s4 (.cons ?s5 (.cons ?s6 .nil))))))
    case s0=>
     intro N K Z E O G p;have xI:K (.tmp 12)=.slice (some ⟨w5.heap.size,0,none⟩) (m-(n+1)+1) (m-(n+1)+1):=O 12 ZbH;exact AD (by simp[execOp,xI,go_sem]) rfl
    case s1=>
     intro N K Z E O G p;have yn:K (.tmp 81)=.slice (some ⟨w5.heap.size,0,none⟩) (m-(n+1)+1) (m-(n+1)+1):=E.1 _ rfl;refine CF (by simp[execOp,resolve,invoke,p,yn,go_sem]) (Ek _ _ _ (xM.out.ext ((Ext.refl _).drew.trans Z))) ?_;rintro e Y ⟨v1,rfl,l,z⟩;obtain⟨A1,n1,V,rfl⟩:=l.form;exact⟨_,rfl,z,_,_,_,rfl,by rw[Bn S.out.2.2.2.2.1,<-xc.out.1]at l;exact l⟩
    case s2=>
     intro N K Z E O G p;have xD:K (.tmp 10)=.slice (some ⟨gu,0,none⟩) (m+1) (m+1):=O 10 ZbH;exact AD (by simp[execOp,xD,go_sem]) rfl
    case s3=>
     intro N K Z E O G p;have e8:K (.tmp 8)=.int .i64 ((n:Int)+1):=O 8 ZbH;exact AD ZeW rfl
    case s4=>
     intro N K Z E O G p;have yo:K (.tmp 83)=.slice (some ⟨gu,0,none⟩) (m+1) (m+1):=E.1 _ rfl;have yp:K (.tmp 84)=.int .i64 ((n:Int)+1):=E.2.1 _ rfl;have yw:(n:Int)+1<=(m:Int)+1:=by omega
     have yx:(0:Int)<=(n:Int)+1:=by omega
     exact AD (by simp[execOp,yo,yp,yw,yx,go_sem]) rfl
    case s5=>
     intro N K Z E O G p;have e9:K (.tmp 9)=.int .i64 (s:Int):=O 9 ZbH;exact AD (by simp[execOp,e9,go_sem]) rfl
    case s6=>
     intro N K Z E O G p;have yq:K (.tmp 85)=.slice (some ⟨gu,0,none⟩) (n+1) (m+1):=E.1 _ rfl;have yr:K (.tmp 86)=.int .i64 (s:Int):=E.2.1 _ rfl;refine CF (by simp[execOp,resolve,invoke,p,yq,yr,go_sem]) (RU _ _ s _ (xJ.out.ext ((Ext.refl _).drew.trans Z)) (by rw[ys.out];omega) a) ?_;rintro e Y ⟨v1,rfl,l,z⟩;obtain⟨A1,n1,V,rfl⟩:=l.form;exact⟨_,rfl,z,_,_,_,rfl,by rw[xc.out.2]at l;exact l⟩
   case fin=>
    intro g N Z hF;obtain⟨yy,ym,yh,I,xh⟩:=hF 1 _ rfl;obtain⟨yz,yD,yA,o,xz⟩:=hF 6 _ rfl;simp only[Yat,Ybg,Nat.reduceAdd,Ybn,YaW,Ybl,Ycf,FH,Act.put,Ybe,YbB,YbS,I,o];clear hF I o;replace xh:=Af xh;replace xz:=Af xz;replace Z:=Af (S.out.2.2.2.2.2.2.2.2.2.2.trans ((Ext.refl _).drew.trans Z));go_wp2;go_ret2;exact⟨_,_,_,_,_,_,rfl,xh.out,xz.out,Z.out⟩
  .obtain ⟨k, rfl⟩:∃q, k=q+1:=⟨k-1, by omega⟩
   have xh:((k+1:Nat):Int)-1=k:=by omega
   rw[xh];obtain⟨x,post,xo,xq,xO,xP,xQ,xR,xS,xC⟩:=S.out.window ZbC ZbC (by rw[xn.out];omega) xV.out;replace xo:=Af xo;replace xq:=Af xq;replace xO:=Af xO;replace xP:=Af xP;replace xQ:=Af xQ;replace xR:=Af xR;replace xS:=Af xS;replace xC:=Af xC;go_wp2_with fail;rw[show k+(n+1)+1-k=n+1+1 by omega];refine(QO gu gv (n+1) _ _ k (U.take k) post x vl wr xC.out xO.out xo.out (by rw[xn.out];omega) ZbC ZbC xq.out xV.out yk S.out.2.2.2.2.2.2.1 ZbC ZbC u.out.2 xP.out).mono ?_;rintro e w6 ⟨q,x',rfl,M,xr,xW,yc,hO,Iw,ye⟩;rw[xo.out]at xr;have xp:q<4294967296:=by rwa [BF]at M
   have xE:Blk w6 w5.heap.size 335 (wv Q):=(hO.block _ (Blk.lt S.out.2.2.2.2.2.1) ZbC).trans S.out.2.2.2.2.2.1;have yl:w6.cell? ⟨w5.heap.size,k,none⟩=some (.int .u32 (Q.getD k 0:Nat)):=by rw[xE.cell,Ec (by rw[S.out.2.2.2.1];omega)]
   have xe:=xE.frozen k;have xl:=S.out.step ZbC xH.out xo.out xR.out xC.out xQ.out xS.out xr xW yc hO M Iw ye yd.out ZbC yk ZbC yg.out (e:=(q:Nat)) rfl;replace xl:=Af xl;clear xr xW yc hO Iw ye xE M;go_wp2;exact⟨⟨k,_,_,by omega,rfl,xl⟩,by simp[intOf]⟩
theorem Nr(s a:Value)(Z y:List Nat)(w:World)(t:Words w s Z)(E:Words w a y)(g:Z.length<=4398046511104)(c:val y≠0) :
  Calls prog 319 #[s,a] w (LV (val Z) (val y) w):=by
 rcases YaI (val Z) (val y)with h | h
 .exact A3P s a Z y w t E g h
 .by_cases q:(Aw (val y)).length=1
  .exact A0Z s a Z y w t E g h q
  .have A:(Aw (val y)).length≠0:=λe=>c (Br.1 e)
   exact A12 s a Z y w t E g h ZbC
theorem FK(h:(Aw n).length<=b):n<BB^b:=by
 have:=Ei (BG n);rw[AK]at this;exact Yaq this (Ybo CS h)
theorem Ke{x k:Nat}(h:x<BB^k):(Aw x).length<=k:=by
 induction k generalizing x with
 |zero=>simp at h;subst h;rw[BJ];simp
 |succ k u=>
  by_cases C:x=0
  .subst C;rw[BJ];simp
  .rw [Fl C]
   simp only[Yat];have:=u (x:=x/BB) (Ybu (by rw[Ybt,YaM]at h;exact h));omega
theorem A33:BB^2=18446744073709551616:=by decide
theorem DS{x y k:Nat}(h:x<=y)(M:(Aw y).length<=k):(Aw x).length<=k:=Yau (BP h) M
def A7r(W:World)(G N k:Nat)(X Y:Value)(wr:World):Prop:=
 ∃(x y:Nat) (A O:Option Addr) (n c h l:Nat),X=.slice A n c/\Y=.slice O h l/\Words wr (.slice A n c) (Aw x)/\Words wr (.slice O h l) (Aw y)/\Nat.gcd x y=G/\y=k/\(Aw x).length<=N/\(Aw y).length<=N/\Ext W wr
def Abl(G:Nat)(m n:Value):Prop:=∃p q:Nat,m=.int .u64 p/\n=.int .u64 q/\p<18446744073709551616/\q<18446744073709551616/\Nat.gcd p q=G
theorem Words.len{n c:Nat}(h:Words w (.slice uz n c) l):n=l.length:=by
 obtain⟨O,q,r,_⟩:=h;injection r
theorem A8r(b H:Bool)(A A':Option Addr)(n c Q l:Nat)(x y:Int)(w:World)(h:IsInt w (.bool b) (.slice A n c) x)(f:IsInt w (.bool H) (.slice A' Q l) y)(M:(Aw x.natAbs).length<=4398046511104)(xc:(Aw y.natAbs).length<=4398046511104) :
  Calls prog 290 #[.agg #[.bool b,.slice A n c],.agg #[.bool H,.slice A' Q l]] w (JL (Nat.gcd x.natAbs y.natAbs) w):=by
 replace h:=Af h;replace f:=Af f;replace M:=Af M;replace xc:=Af xc;go_enter func290,ntmps290;go_wp2
 refine wp_region_v ZbG [[], [(11, 0)], [(12, 1)], [(13, 2)], [], [(15, 4)], [(16, 5)], [(17, 6)]] [[], [0], [0, 1], [0, 1, 2], [], [4], [0, 1, 2, 3, 4, 5], [0, 1, 2, 3, 4, 5, 6]]
  [λv _=>v=.pointer (some ⟨w.heap.size,1,none⟩),λv _=>v=.slice A n c,λv N=>∃A n c,v=.slice A n c/\Words N (.slice A n c) (Aw x.natAbs),λv N=>∃A n c,v=.slice A n c/\Words N (.slice A n c) (Aw x.natAbs),λv _=>v=.pointer (some ⟨w.heap.size+1,1,none⟩),λv _=>v=.slice A' Q l,λv N=>∃A n c,v=.slice A n c/\Words N (.slice A n c) (Aw y.natAbs),λv N=>∃A n c,v=.slice A n c/\Words N (.slice A n c) (Aw y.natAbs)]
  rfl ZbG ZbG ?stab ?steps ?fin
 case stab=>exact .cons (Stab.eq _) (.cons (Stab.eq _) (.cons (λ_ _ _ J ⟨A,n,c,B,C⟩=>⟨A,n,c,B,C.ext J⟩) (.cons (λ_ _ _ J ⟨A,n,c,B,C⟩=>⟨A,n,c,B,C.ext J⟩) (.cons (Stab.eq _) (.cons (Stab.eq _) (.cons (λ_ _ _ J ⟨A,n,c,B,C⟩=>⟨A,n,c,B,C.ext J⟩) (.cons (λ_ _ _ J ⟨A,n,c,B,C⟩=>⟨A,n,c,B,C.ext J⟩) .nil)))))))
 case steps=>
  refine .cons ?s0 (.cons ?s1 (.cons ?s2 (.cons ?s3 (.cons ?s4 (.cons ?s5 (.cons ?s6 (.cons ?s7 .nil)))))))
  case s0=>
   intro N i Z E t I V;exact ZfZ
  case s1=>
   intro N i Z E t I V;have xu:i (.tmp 11)=.pointer (some ⟨w.heap.size,1,none⟩):=E.1 _ rfl;have d:N.cell? ⟨w.heap.size,1,none⟩=some (.slice A n c):=Z.cellv (((((Blk.new _ _ _).alloc _).alloc _).drew.cell 1));exact AD (by simp[execOp,xu,d,go_sem]) rfl
  case s2=>
   intro N i Z E t I V;have xv:i (.tmp 12)=.slice A n c:=E.1 _ rfl;refine CF (by simp[execOp,resolve,invoke,V,xv,go_sem]) (Ek _ _ _ (h.out.2.ext (((((Ext.refl _).alloc _).alloc _).alloc _).drew.trans Z))) ?_;rintro e j ⟨v1,rfl,P,xa⟩;exact Zhz
  case s3=>
   intro N i Z E t I V;have xM:=E.1 _ rfl;obtain⟨A3,n3,c3,xy,xK⟩:=xM;refine CF (by simp[execOp,resolve,invoke,V,xy,go_sem]) (MB _ _ _ xK (by have:=M.out;omega)) ?_;rintro e j ⟨v1,rfl,P,xa⟩;exact Zib
  case s4=>
   intro N i Z E t I V;have r:i (.tmp 3)=.pointer (some ⟨w.heap.size+1,0,none⟩):=t 3 ZbH;exact AD (by simp[execOp,r,go_sem]) rfl
  case s5=>
   intro N i Z E t I V;have xF:i (.tmp 15)=.pointer (some ⟨w.heap.size+1,1,none⟩):=E.1 _ rfl;have d:N.cell? ⟨w.heap.size+1,1,none⟩=some (.slice A' Q l):=Z.cellv ((((EV _ _ ZbR).alloc _).drew.cell 1));exact AD (by simp[execOp,xF,d,go_sem]) rfl
  case s6=>
   intro N i Z E t I V;have xI:i (.tmp 16)=.slice A' Q l:=E.1 _ rfl;refine CF (by simp[execOp,resolve,invoke,V,xI,go_sem]) (Ek _ _ _ (f.out.2.ext (((((Ext.refl _).alloc _).alloc _).alloc _).drew.trans Z))) ?_;rintro e j ⟨v1,rfl,P,xa⟩;exact Zhz
  case s7=>
   intro N i Z E t I V;have xN:=E.1 _ rfl;obtain⟨A3,n3,c3,xJ,xK⟩:=xN;refine CF (by simp[execOp,resolve,invoke,V,xJ,go_sem]) (MB _ _ _ xK (by have:=xc.out;omega)) ?_;rintro e j ⟨v1,rfl,P,xa⟩;exact Zib
 case fin=>
  intro g N Z hF;obtain⟨AX,nX,cX,r,hX⟩:=hF 3 _ rfl;obtain⟨AY,nY,cY,e7,hY⟩:=hF 7 _ rfl;simp only[Yat,Ybg,Nat.reduceAdd,Ybn,YaW,Ybl,Ycf,FH,Act.put,Ybe,YbB,YbS,r,e7];clear hF r e7;replace hX:=Af hX;replace hY:=Af hY;replace Z:=Af Z;generalize hG:Nat.gcd x.natAbs y.natAbs=G at *;replace hG:=Af hG;go_wp2;go_loopg [5,6] (y.natAbs) (λk X Y wr=>A7r (((w.alloc (Obj.cells #[Value.bool b,Value.slice A n c] 109)).alloc (Obj.cells #[Value.bool H,Value.slice A' Q l] 109)).alloc (Obj.cells #[Value.bool false,Value.slice none 0 0] 109)).drew G 4398046511104 k X Y wr)
  case atStart=>exact⟨_,_,_,_,_,_,_,_,rfl,rfl,hX.out,hY.out,hG.out,rfl,M.out,xc.out,Z.out⟩
  case round=>
   obtain⟨p,q,A1,A2,n1,a,n2,u,rfl,rfl,P,xb,xp,rfl,z,s,xl⟩:=hrel;clear hX hY Z;have xw:=P.len;have xt:=xb.len;by_cases xs:q=0
   .subst xs
    obtain rfl:n2=0:=by rw[xt,BJ];rfl
    have F:Hid (p=G):=by show p=G;rw[<-xp];simp
    replace P:=Af P;replace xl:=Af xl;clear xw xt xp xb z s;go_wp2_with fail;refine(ED _ _ _ _ P.out).mono ?_;rintro e w2 ⟨b2,A2,n2,k2,rfl,xh,T⟩;rw[AK,F.out]at xh;replace T:=Af (xl.out.trans T);replace xh:=Af xh;obtain⟨U,xf⟩:=T.out.cells;go_wp2;refine bodyPost_ret (v:=.agg #[.bool b2,.slice A2 n2 k2]) Zfl rfl ⟨_,_,_,_,rfl,?_,?_⟩
    .have L:Ty w2 (w.heap.size+2) 109:=(Fy _ _ ZbR).drew.ext T.out
     exact(xh.out.set L ZbH _).set (L.set _ _) ZbH _
    .exact (((((Ext.refl _).alloc _).alloc _).alloc _).drew.trans T.out |>.set ZcM _).set ZcM _
   .have xn:0<n2:=by
     rcases YaB n2 with K | K
     .exact absurd (Br.1 (xt.symm.trans K)) xs
     .exact K
    by_cases xE:n1<=2/\n2<=2
    .obtain ⟨xm,xq⟩:=xE
     have xD:p<18446744073709551616:=by rw[<-A33];exact FK ZbC
     have xk:q<18446744073709551616:=by rw[<-A33];exact FK ZbC
     have xA:(Aw p).length<=2:=by omega
     have xB:(Aw q).length<=2:=by omega
     replace P:=Af P;replace xb:=Af xb;replace xl:=Af xl;replace xp:=Af xp;replace xA:=Af xA;replace xB:=Af xB;replace xD:=Af xD;replace xk:=Af xk;clear xw xt z s;have d1:decide ((n1:Int)<=2)=true:=by simp;omega
     have d2:decide ((n2:Int)<=2)=true:=by simp;omega
     go_wp2_with fail;refine(Uo _ _ _ P.out xA.out).mono ?_;rintro e j ⟨rfl,xa⟩;replace xb:=Af (xb.out.ext xa);replace xa:=Af (xl.out.trans xa);go_wp2_with fail;refine(Uo _ _ _ xb.out xB.out).mono ?_;rintro e w2 ⟨rfl,T⟩;replace T:=Af (xa.out.trans T);rw[AK,AK];go_wp2;go_loopw [7,8] (λmm nn wr=>Abl G mm nn/\Hid (Ext (((w.alloc (Obj.cells #[Value.bool b,Value.slice A n c] 109)).alloc (Obj.cells #[Value.bool H,Value.slice A' Q l] 109)).alloc (Obj.cells #[Value.bool false,Value.slice none 0 0] 109)).drew wr)) (λ_ nn _=>(intOf nn).toNat)
     case atStart=>exact⟨⟨p,q,rfl,rfl,xD.out,xk.out,xp.out⟩,T.out⟩
     case round=>
      obtain⟨⟨p,q,rfl,rfl,F,m,R⟩,xo⟩:=hrel;clear xp xD xk T xa xl P xb xA xB;replace R:=Af R;by_cases S:q=0
      .subst S
       have xO:Hid (p=G):=by show p=G;rw[<-R.out];simp
       replace F:=Af F;go_wp2_with fail;refine(OV _ _ F.out).mono ?_;rintro e w3 ⟨v3,rfl,xr,xd⟩;replace xd:=Af (xo.out.trans xd);replace xr:=Af xr;go_wp2_with fail;refine(ED _ _ _ _ xr.out).mono ?_;rintro e w2 ⟨b2,A2,n2,k2,rfl,xh,T⟩;rw[AK,xO.out]at xh;replace T:=Af (xd.out.trans T);replace xh:=Af xh;obtain⟨U,xf⟩:=T.out.cells;go_wp2;refine bodyPost_ret (v:=.agg #[.bool b2,.slice A2 n2 k2]) Zfl rfl ⟨_,_,_,_,rfl,?_,?_⟩
       .have L:Ty w2 (w.heap.size+2) 109:=(Fy _ _ ZbR).drew.ext T.out
        exact(xh.out.set L ZbH _).set (L.set _ _) ZbH _
       .exact (((((Ext.refl _).alloc _).alloc _).alloc _).drew.trans T.out |>.set ZcM _).set ZcM _
      .have xg:(1:Int)<=q:=by omega
       have W:Hid ((p:Int)%q=((p%q:Nat):Int)):=(Yds _ _).symm;replace F:=Af F;have xL:=Af m;clear m;go_wp2;go_quiet (fail);go_wp2;rw[W.out];refine⟨⟨⟨q,p%q,rfl,rfl,xL.out,?_,?_⟩,xo.out.drewN _⟩,?_⟩
       .have:=YaR p (show 0<q by omega)
        have:=xL.out;omega
       .have:=R.out
        rw[<-this,YcQ p q,YeS q p,YcQ]
       .have:=YaR p (show 0<q by omega)
        simp only[intOf];omega
    .have xC:(Aw p).length<=4398046511104:=z
     have xH:Hid (Nat.gcd q (p%q)=G):=by
      show _=G;rw[<-xp,YcQ p q,YeS q p,YcQ]
     have xz:Hid ((Aw (p%q)).length<=4398046511104):=DS (Yca (YaR p (YbC xs))) s;have xG:Hid (val (Aw q)≠0):=by show _≠0;rw[AK];exact xs
     have O:Hid (p%q<q):=YaR p (YbC xs);replace P:=Af P;replace xb:=Af xb;replace xl:=Af xl;replace xC:=Af xC;replace s:=Af s;clear xw xt xp z xs;have xx:Hid (¬(n1<=2/\n2<=2)):=xE;clear xE;by_cases d1:n1<=2
     .have xi:decide ((n1:Int)<=2)=true:=by simp; omega
      have xj:decide ((n2:Int)<=2)=false:=by have:=xx.out;simp;omega
      clear xx;go_wp2_with fail;refine(Nr _ _ _ _ _ P.out xb.out xC.out xG.out).mono ?_;rintro e w2 ⟨A3,A4,n3,c3,n4,c4,rfl,xr,xe,T⟩;rw[AK,AK]at xe;replace xb:=Af (xb.out.ext T);replace T:=Af (xl.out.trans T);replace xe:=Af xe;clear xr;go_wp2;go_roundg (p%q)
      case measure=>exact O.out
      case rel=>exact⟨_,_,_,_,_,_,_,_,rfl,rfl,xb.out,xe.out,xH.out,rfl,s.out,xz.out,T.out⟩
     .have xi:decide ((n1:Int)<=2)=false:=by simp; omega
      clear xx;go_wp2_with fail;refine(Nr _ _ _ _ _ P.out xb.out xC.out xG.out).mono ?_;rintro e w2 ⟨A3,A4,n3,c3,n4,c4,rfl,xr,xe,T⟩;rw[AK,AK]at xe;replace xb:=Af (xb.out.ext T);replace T:=Af (xl.out.trans T);replace xe:=Af xe;clear xr;go_wp2;go_roundg (p%q)
      case measure=>exact O.out
      case rel=>exact⟨_,_,_,_,_,_,_,_,rfl,rfl,xb.out,xe.out,xH.out,rfl,s.out,xz.out,T.out⟩
def A6U(q r:Int)(w:World)(e:Ending)(N:World):Prop:=
 ∃(b H:Bool) (A O:Option Addr) (n c h l:Nat),e=.returned (.tuple #[.agg #[.bool b,.slice A n c],.agg #[.bool H,.slice O h l],.int .i64 0])/\IsInt N (.bool b) (.slice A n c) q/\IsInt N (.bool H) (.slice O h l) r/\Ext w N
theorem YX{x y q r:Int}(M:y≠0)(h:r+y*q=x)(c:0<=r)(A:r<y.natAbs):x/y=q/\x%y=r:=by
 rcases Int.lt_or_gt_of_ne M with R | hpos
 .have:=(Int.ediv_emod_unique' (a:=x) (b:=y) (r:=r) (q:=q) R).2 ⟨h, c, by omega⟩
  exact this
 .have:=(Int.ediv_emod_unique (a:=x) (b:=y) (r:=r) (q:=q) hpos).2 ⟨h, c, by omega⟩
  exact this
theorem Zc{x y:Int}(hy:y≠0)(h:¬x<0\/x.natAbs%y.natAbs=0):x/y=Ku (!(decide (x<0)==decide (y<0))) (x.natAbs/y.natAbs)/\x%y=Ku false (x.natAbs%y.natAbs):=by
  have hyp:0<y.natAbs:=by omega
  have e:=YcT x.natAbs y.natAbs
  have hlt:=YaR x.natAbs hyp
  generalize x.natAbs/y.natAbs=q at *
  generalize x.natAbs%y.natAbs=r at *
  have e':(y.natAbs:Int)*q+r=x.natAbs:=by exact_mod_cast e
  refine YX hy ?_ (by simp [Ku]) (by simp [Ku];omega)
  have hsx:=NL (z:=x)
  have hsy:=NL (z:=y)
  by_cases hx:x<0
  . have hr : r = 0 := by rcases h with h | h
                          . exact absurd hx h
                          . exact h
    subst hr
    by_cases hy2:y<0
    . have ex:(x.natAbs:Int) = -x:=by omega
      have ey:(y.natAbs:Int) = -y:=by omega
      rw [ex,ey] at e'
      simp [Ku,hx,hy2]
      rw [Int.neg_mul] at e'
      omega
    . have ex:(x.natAbs:Int) = -x:=by omega
      have ey:(y.natAbs:Int)=y:=by omega
      rw [ex,ey] at e'
      simp [Ku,hx,hy2]
      rw [YeR]
      omega
  . by_cases hy2:y<0
    . have ex:(x.natAbs:Int)=x:=by omega
      have ey:(y.natAbs:Int) = -y:=by omega
      rw [ex,ey] at e'
      simp [Ku,hx,hy2]
      rw [YeR]
      rw [Int.neg_mul] at e'
      omega
    . have ex:(x.natAbs:Int)=x:=by omega
      have ey:(y.natAbs:Int)=y:=by omega
      rw [ex,ey] at e'
      simp [Ku,hx,hy2]
      omega
theorem WJ(b H:Bool)(A O:Option Addr)(n c B l:Nat)(x y:Int)(w:World)(h:IsInt w (.bool b) (.slice A n c) x)(C:IsInt w (.bool H) (.slice O B l) y)(g:(Aw x.natAbs).length<=4398046511104)(J:(Aw y.natAbs).length<=4398046511104)(M:y≠0)(G:¬x<0\/x.natAbs%y.natAbs=0) :
  Calls prog 291 #[.agg #[.bool b,.slice A n c],.agg #[.bool H,.slice O B l]] w (A6U (x/y) (x%y) w):=by
 have d:=Af h.bool_eq;have F:=Af C.bool_eq;have m:=Af (Zc M G);have xa:Hid (y.natAbs≠0):=by show _≠0;omega
 replace h:=Af h;replace C:=Af C;replace g:=Af g;replace J:=Af J;replace G:=Af G;go_enter func291,ntmps291;go_wp2_with fail;refine(Ek _ _ _ (C.out.2.ext (((((Ext.refl _).alloc _).alloc _).alloc _).alloc _))).mono ?_;rintro e k ⟨f,rfl,I,Q⟩;rw[Bn (BG _),AK]at I;obtain⟨i,V,K,rfl⟩:=I.form;have U:V≠0:=by rw[I.len];exact λe=>xa.out (Br.1 e)
 have xc:((V:Int)==0)=false:=by simpa using U
 clear U I;obtain⟨E,Y⟩:=Q.cells;replace Q:=Af Q;go_wp2_with fail;refine(Nr _ _ _ _ _ (h.out.2.ext ((((((Ext.refl _).alloc _).alloc _).alloc _).alloc _).trans Q.out)) (C.out.2.ext ((((((Ext.refl _).alloc _).alloc _).alloc _).alloc _).trans Q.out)) g.out (by rw[AK];exact xa.out)).mono ?_;rintro e N ⟨A3,A4,R,S,p,X,rfl,j,W,T⟩;rw[AK,AK]at j W
 have xb:Hid (b=false\/p=0):=by
  rcases G.out with G | G
  .left;rw[d.out];simpa using G
  .rw [G]at W
   exact .inr (by rw[W.len,BJ];rfl)
 replace T:=Af (Q.out.trans T);clear E Y;obtain⟨E,Y⟩:=T.out.cells;replace j:=Af j;replace W:=Af W;clear xc
 cases b with
 |false=>
  clear xb;go_wp2_with fail;refine(ED _ _ _ _ j.out).mono ?_;rintro e a ⟨b5,A5,n5,o,rfl,t,s⟩;rw[AK,show H = !(decide (x<0)==decide (y<0))by rw[<-d.out,<-F.out];cases H<;>rfl,<-m.out.1]at t;replace W:=Af (W.out.ext s);replace t:=Af t;replace s:=Af (T.out.trans s);clear E Y;obtain⟨E,Y⟩:=s.out.cells;go_wp2_with fail;refine(ED _ _ _ _ W.out).mono ?_;rintro e r ⟨z,A6,n6,v,rfl,P,Z⟩;rw[AK,<-m.out.2]at P;replace t:=Af (t.out.ext Z);replace P:=Af P;replace Z:=Af (s.out.trans Z);clear E Y;obtain⟨E,Y⟩:=Z.out.cells;go_wp2;refine bodyPost_ret (v:=.tuple #[.agg #[.bool b5,.slice A5 n5 o],.agg #[.bool z,.slice A6 n6 v],.int .i64 0]) Zfm rfl ⟨_,_,_,_,_,_,_,_,rfl,?_,?_,?_⟩
  .exact ZaD
  .exact ZaE
  .exact Zkd
 |true=>
  obtain rfl:p=0:=by
   rcases xb.out with q | q
   .cases q
   .exact q
  clear xb;go_wp2_with fail;refine(ED _ _ _ _ j.out).mono ?_;rintro e a ⟨b5,A5,n5,o,rfl,t,s⟩;rw[AK,show(!H) = !(decide (x<0)==decide (y<0))by rw[<-d.out,<-F.out];cases H<;>rfl,<-m.out.1]at t;replace W:=Af (W.out.ext s);replace t:=Af t;replace s:=Af (T.out.trans s);clear E Y;obtain⟨E,Y⟩:=s.out.cells;go_wp2_with fail;refine(ED _ _ _ _ W.out).mono ?_;rintro e r ⟨z,A6,n6,v,rfl,P,Z⟩;rw[AK,<-m.out.2]at P;replace t:=Af (t.out.ext Z);replace P:=Af P;replace Z:=Af (s.out.trans Z);clear E Y;obtain⟨E,Y⟩:=Z.out.cells;go_wp2;refine bodyPost_ret (v:=.tuple #[.agg #[.bool b5,.slice A5 n5 o],.agg #[.bool z,.slice A6 n6 v],.int .i64 0]) Zfm rfl ⟨_,_,_,_,_,_,_,_,rfl,?_,?_,?_⟩
  .exact ZaD
  .exact ZaE
  .exact Zkd
theorem IsInt.one{q:Bool}(h:IsInt w (.bool q) (.slice uz n b) a)(A:a=1):q=false/\n=1/\∃g o,uz=some ⟨g,o,none⟩/\w.cell? ⟨g,o,none⟩=some (.int .u32 1):=by
 subst A
 have d:Aw (1:Int).natAbs=[1]:=by
  show Aw 1=[1];rw[Fl ZbC];have:(1:Nat)%BB=1:=YaV UK;have B:(1:Nat)/BB=0:=YbK UK;rw[this,B,BJ]
 have B:=h.2;rw[d]at B;obtain⟨O,l,r,_,_,C⟩:=B.open_;injection r with W E H
 subst W;subst H;obtain⟨g,o,I,_,G⟩:=C ZbR;exact⟨h.bool_eq,E,g,o,I,G 0 ZbR⟩
theorem A3G(b:Bool)(A:Option Addr)(n c:Nat)(z:Int)(w:World)(h:IsInt w (.bool b) (.slice A n c) z) :
  Calls prog 285 #[.agg #[.bool b,.slice A n c]] w λe N=>e=.returned (.bool (decide (z=1)))/\Ext w N:=by
 cases b with
 |true=>
  have F:Hid (decide (z=1)=false):=by
   have:=h.bool_eq;show _=false;simp at this ⊢;omega
  clear h;go_enter func285,ntmps285;go_wp2;go_ret;exact⟨by rw[F.out];rfl,(Ext.refl _).alloc _⟩
 |false=>
  by_cases E:n=1
  .subst E
   have B:=h.2;have I:=B.len
   obtain⟨t,L⟩:∃t,Aw z.natAbs=[t]:=by
    match d:Aw z.natAbs,I with
    |[t],_=>exact⟨t,rfl⟩
   rw[L]at B;obtain⟨S,l,r,G,v,C⟩:=B.open_;injection r with W J H
   subst W;subst H;obtain⟨g,o,rfl,R,O⟩:=C ZbR;replace O:w.cell? ⟨g,o,none⟩=some (.int .u32 (t:Nat)):=O 0 ZbR
   have X:Hid (z=(t:Nat)):=by
    have K:z.natAbs=t:=by rw[<-AK z.natAbs,L];simp[val]
    have Q:=h.bool_eq;simp at Q;show z=t;omega
   have M:w.heap.size≠g:=by omega
   clear C B h I J;replace L:=Af L;by_cases q:t=1
   .subst q
    go_enter func285,ntmps285;go_wp2;go_ret;exact⟨by rw[X.out];rfl,(Ext.refl _).alloc _⟩
   .have V:((t:Int)==1)=false:=ZiI
    go_enter func285,ntmps285;go_wp2;go_ret;refine⟨?_,(Ext.refl _).alloc _⟩;have:decide (z=1)=false:=by rw[X.out];exact ZiI
    rw[this];rfl
  .have F:Hid (decide (z=1)=false):=by
    show _=false;simp only[YdD];intro e;exact E (h.one e).2.1
   have V:((n:Int)==1)=false:=by simp;omega
   clear h;go_enter func285,ntmps285;go_wp2;go_ret;exact⟨by rw[F.out];rfl,(Ext.refl _).alloc _⟩
theorem FV{x y:Int}{N M:Nat}(C:(Aw x.natAbs).length<=N)(B:(Aw y.natAbs).length<=M):(Aw (x*y).natAbs).length<=N+M:=by
 have q:=FK C;have A:=FK B
 have K:(x*y).natAbs<BB^(N+M):=by
  rw[Ycu,YcL];rcases YaB y.natAbs with c | c
  .rw [c,Ycz];exact Yda (Yem CS) (Yem CS)
  .exact Nat.mul_lt_mul_of_lt_of_le q (Yca A) (Yem CS)
 exact Ke K
theorem DP{x y:Int}(M:0<y):(Rat.divInt x y).num=x/(Nat.gcd x.natAbs y.natAbs:Int)/\((Rat.divInt x y).den:Int)=y/(Nat.gcd x.natAbs y.natAbs:Int):=by
 obtain⟨d,rfl⟩:=YbJ (Int.le_of_lt M);have q:d≠0:=by omega
 have:Rat.divInt x (d:Int)=mkRat x d:=rfl;rw[this,<-YdJ q,Rat.normalize_eq q];exact⟨rfl,by simp[Ydr]⟩
theorem UP(a b:Rat):(a*b).num=(Rat.divInt a.num b.den).num*(Rat.divInt b.num a.den).num/\(a*b).den=(Rat.divInt a.num b.den).den*(Rat.divInt b.num a.den).den:=by
 have q:=DP (x:=a.num) (y:=b.den) (by have:=b.den_nz;omega);have A:=DP (x:=b.num) (y:=a.den) (by have:=a.den_nz;omega);have e:a*b=Rat.mul a b:=rfl;rw[e];unfold Rat.mul
 dsimp only
 rw[Int.divExact_eq_ediv,Int.divExact_eq_ediv,Nat.divExact_eq_div,Nat.divExact_eq_div];refine⟨by rw[q.1,A.1];rfl,?_⟩
 have W:(Rat.divInt a.num b.den).den=b.den/Nat.gcd a.num.natAbs b.den:=by
  have:=q.2;simp at this;exact_mod_cast this
 have o:(Rat.divInt b.num a.den).den=a.den/Nat.gcd b.num.natAbs a.den:=by
  have:=A.2;simp at this;exact_mod_cast this
 rw[W,o,YaM]
theorem Vi(a b:Rat):a+b=Rat.divInt (a.num*b.den+b.num*a.den) ((a.den:Int)*b.den):=by
 rw[Rat.add_def,YdJ];have:((a.den:Int)*b.den)=((a.den*b.den:Nat):Int):=by simp
 rw[this];rfl
theorem TU(a:Rat)(h:0<a.num):a⁻¹.num=a.den/\(a⁻¹.den:Int)=a.num:=by
 rw[Rat.inv_def];have q:=DP (x:=a.den) (y:=a.num) h;have A:Nat.gcd ((a.den:Int).natAbs) a.num.natAbs=1:=by simpa[YcQ]using a.reduced.symm
 rw[A]at q;exact ZjI
theorem TV(a:Rat)(h:a.num<0):a⁻¹.num=-(a.den:Int)/\(a⁻¹.den:Int)=-a.num:=by
 rw[Rat.inv_def,<-Rat.neg_divInt_neg];have q:=DP (x:=-(a.den:Int)) (y:=-a.num) ZbC;have A:Nat.gcd ((-(a.den:Int)).natAbs) (-a.num).natAbs=1:=by simpa[YcQ]using a.reduced.symm
 rw[A]at q;exact ZjI
theorem A13(x:Int):(Rat.divInt x 1).num=x/\((Rat.divInt x 1).den:Int)=1:=by
 have q:=DP (x:=x) (y:=1) ZbC;exact ZjI
theorem SR{x y:Int}(M:0<y)(h:Nat.gcd x.natAbs y.natAbs=1):(Rat.divInt x y).num=x/\((Rat.divInt x y).den:Int)=y:=by
 have q:=DP (x:=x) M;rw[h]at q;exact ZjI
def IsRat(w:World)(W K F h:Value)(q:Rat):Prop:=IsInt w W K q.num/\IsInt w F h (q.den:Int)
theorem IsRat.ext{W K F A:Value}{q:Rat}(h:IsRat w W K F A q)(b:Ext w p):IsRat p W K F A q:=⟨h.1.ext b,h.2.ext b⟩
def put4(w:World)(b:Nat)(I h f u:Value):World:=(((w.setCell ⟨b,0,none⟩ I).setCell ⟨b,1,none⟩ h).setCell ⟨b,2,none⟩ f).setCell ⟨b,3,none⟩ u
theorem IsInt.put4(h:IsInt w z u a){b:Nat}(L:Ty w b t)(A:t≠335)(I q f B:Value):IsInt (put4 w b I q f B) z u a:=
 ((((h.set (p:=⟨b,0,none⟩) L A _).set (p:=⟨b,1,none⟩) (L.set _ _) A _).set (p:=⟨b,2,none⟩) ((L.set _ _).set _ _) A _).set (p:=⟨b,3,none⟩) (((L.set _ _).set _ _).set _ _) A _)
theorem IsRat.put4{W K F q:Value}(h:IsRat w W K F q vD){b:Nat}(L:Ty w b t)(A:t≠335)(I B f u:Value):IsRat (put4 w b I B f u) W K F q vD:=⟨h.1.put4 L A I B f u,h.2.put4 L A I B f u⟩
theorem Ext.put4(h:Ext w p){b:Nat}(E:w.heap.size<=b)(I q f u:Value):Ext w (put4 p b I q f u):=(((h.set (p:=⟨b,0,none⟩) E _).set (p:=⟨b,1,none⟩) E _).set (p:=⟨b,2,none⟩) E _).set (p:=⟨b,3,none⟩) E _
def Ab7(q:Rat)(w:World)(e:Ending)(N:World):Prop:=
 ∃(b H:Bool) (A O:Option Addr) (n c h l:Nat),e=.returned (.agg #[.bool b,.slice A n c,.bool H,.slice O h l])/\IsRat N (.bool b) (.slice A n c) (.bool H) (.slice O h l) q/\Ext w N
def RSz(q:Rat)(N:Nat):Prop:=(Aw q.num.natAbs).length<=N/\(Aw q.den).length<=N
theorem RSz.mono{q:Rat}(h:RSz q n)(v:n<=b):RSz q b:=⟨Yau h.1 v,Yau h.2 v⟩
theorem Ly(x:Int)(g:Nat)(R:(g:Int)∣x):(x/(g:Int)).natAbs<=x.natAbs:=by
 obtain⟨k,rfl⟩:=R;rcases YaB g with h | h
 .subst h;simp
 .rw [Int.mul_ediv_cancel_left _ ZbC, Ycu]
  exact Nat.le_mul_of_pos_left _ Zdj
theorem Mz{x y:Int}(M:0<y):(Rat.divInt x y).num.natAbs<=x.natAbs/\(Rat.divInt x y).den<=y.natAbs:=by
 have h:=DP (x:=x) M;have q:((Nat.gcd x.natAbs y.natAbs:Nat):Int)∣x:=Ydc.2 (YcG _ _);have A:((Nat.gcd x.natAbs y.natAbs:Nat):Int)∣y:=Ydc.2 (YbN _ _);refine⟨by rw[h.1];exact Ly _ _ q,?_⟩;have:=Ly _ _ A;rw[<-h.2]at this;exact ZjY
theorem RSz.divInt{x y:Int}{N:Nat}(M:0<y)(C:(Aw x.natAbs).length<=N)(O:(Aw y.natAbs).length<=N):RSz (Rat.divInt x y) N:=
 ⟨DS (Mz M).1 C,DS (Mz M).2 O⟩
theorem den_pos(q:Rat):(0:Int)<q.den:=by have:=q.den_nz;omega
theorem RSz.mul{N M:Nat}(hp:RSz vD N)(m:RSz uV M):RSz (vD*uV) (N+M):=by
 have h:=UP vD uV;have l:=Mz (x:=vD.num) (den_pos uV);have r:=Mz (x:=uV.num) (den_pos vD);simp only[YaU]at l r;constructor
 .rw [h.1]
  exact FV (DS l.1 hp.1) (DS r.1 m.1)
 .rw [h.2]
  have:=FV (x:=((Rat.divInt vD.num uV.den).den:Int)) (y:=((Rat.divInt uV.num vD.den).den:Int)) (N:=M) (M:=N) (by simpa using DS l.2 m.2) (by simpa using DS r.2 hp.2);rw[Ycu]at this;simpa[Yde]using this
theorem A2D(C:(Aw a.natAbs).length<=n)(M:(Aw j.natAbs).length<=n):(Aw (a+j).natAbs).length<=n+1:=by
 have q:=FK C;have A:=FK M;refine Ke ?_;have K:=Int.natAbs_add_le a j;have Q:2*BB^n<=BB^n*BB:=by rw[YaM];exact Yas _ ZbH
 rw[Ybt];omega
theorem Fv(q:Rat)(h:RSz q n):(Aw (q.den:Int).natAbs).length<=n:=by simpa using h.2
theorem RSz.add{p q:Rat}{N M:Nat}(hp:RSz p N)(m:RSz q M):RSz (p+q) (N+M+1):=by
 rw[Vi];refine RSz.divInt (YeU (den_pos p) (den_pos q)) ?_ ?_
 .refine A2D (FV hp.1 (Fv q m)) ?_
  have:=FV m.1 (Fv p hp);rwa [Yde]at this
 .exact Yau (FV (Fv p hp) (Fv q m)) ZbC
theorem A8V(h:RSz vD n)(c:vD.num≠0):RSz vD⁻¹ n:=by
 rcases Int.lt_or_gt_of_ne c with g | hp
 .obtain ⟨W,o⟩:=TV vD g
  have H:vD⁻¹.den=vD.num.natAbs:=by omega
  exact⟨by rw[W,Yez];exact Fv vD h,by rw[H];exact h.1⟩
 .obtain ⟨W,o⟩:=TU vD hp
  have H:vD⁻¹.den=vD.num.natAbs:=by omega
  exact⟨by rw[W];exact Fv vD h,by rw[H];exact h.1⟩
