/- Part 8. No condition. -/
import Derived.Laws.CopyRow
import Derived.Test.YtcikkglcoeedlaaGreatBk5
import Derived.Test.YtcikkglcoeedlaaGreatBk7
set_option linter.unusedSimpArgs false
set_option linter.unusedVariables false
set_option maxRecDepth 100000
set_option maxHeartbeats 4000000
namespace Go.Proofs.YtcikkglcoeedlaaGreat
open _root_.Go.Proofs.Tryz
open Go.RowKit
variable{vY:Array Oper}{l f vo vX:List Nat}{n b T m c:Nat}{z:Value}{w q:World}
theorem Words.old{v:Value}(h:Words w v l)(F:∀k,k<w.heap.size->q.heap[k]? = w.heap[k]?):Words q v l:=by
 obtain⟨A,c,r,I,x,Y,E⟩:=h;refine⟨A,c,r,I,x,Y,λG=>?_⟩;obtain⟨b,o,J,S,B,C,L⟩:=E G;exact⟨b,o,J,S,B,(F b (Bw C)).trans C,L⟩
theorem QP{P:Program}{rest:List Oper}{o:Oper}{a:Act}{Q:Exit->Act->World->Prop}(H:o.guard=none)(s x:Operand)(t:TypeId)
  (A:o.op=.call { callee:=.builtin .copy,args:=#[s,x],argTypes:=#[t,t] }) (v u:Value) (Y:a.eval s=v) (E:a.eval x=u)
  (p:(Builtin.copy_ #[t,t] o.type #[v,u]).run P w=.ok z q) (h:wpList P vY Q rest (a.put o.dst z) q):wpList P vY Q (o::rest) a w:=by
 refine wpList_plain H λK f=>?_;unfold Oper.wp execOp;exact ZgF
theorem Rn{A:Option Addr}{c:Nat}(P:Blk w n 335 (wv (List.replicate b 0)))(h:Words w (.slice A l.length c) l)(G:0<l.length)(J:l.length<=b) :
  ∃N,(Builtin.copy_ #[107,107] 3 #[.slice (some ⟨n,0,none⟩) b b,.slice A l.length c]).run prog w=.ok (goInt l.length) N/\Blk N n 335 (wv (l++List.replicate (b-l.length) 0))/\Only n w N:=by
 obtain⟨K,I,r,_,_,E⟩:=h.open_;cases r;obtain⟨B,o,rfl,F,L⟩:=E G;have O:(wv l).toList.length=l.length:=by simp[wv]
 have X := run_copy_row prog w 107 107 3 335 n 0 b b ⟨B, o, none⟩ l.length c (wv (List.replicate b 0)) 335 (wv l).toList underlying107 ZbI P (by rw [O]; exact (Ybu J).symm)
  (λj v a=>by
   have M:j<l.length:=by have:=(Yae.1 a).1;omega
   rw[A0z,L j M];rw[Ycr,Ea M]at a;exact a) (by rw[O,A6Q];simp;omega) (λv r=>by simp[wv]at r;obtain⟨x,_,rfl⟩:=r;rfl)
 rw[O]at X;refine⟨_,X,?_,⟨rfl,rfl,rfl,by simp[World.setRow],λk _ C=>setRow_other w n k _ C⟩⟩
 have e:((wv (List.replicate b 0)).toList.take 0++(wv l).toList++(wv (List.replicate b 0)).toList.drop (0+l.length)).toArray=wv (l++List.replicate (b-l.length) 0):=by
  simp[wv]
 rw[e];exact setRow_heap w n _ _ 335 _ P
def DvRel(w wr:World)(A g:Nat)(Y v U Q:List Nat)(m n k:Nat):Prop:=
 U.length=m+1/\BM U/\Blk wr A 335 (wv U)/\Q.length=m-n+1/\BM Q/\Blk wr g 335 (wv Q) /\
 val (Y.drop k)=val (Q.drop k)*val v+val (U.drop k)/\U.take k=Y.take k/\val (U.drop k)<val v/\Below A w wr
theorem DvRel.window{m A k:Nat}(h:DvRel w q n b l f vo vX m A (k+1))(E:k+A<=m)(v:f.length=A)(X:BM f) :
  ∃x post,x.length=A+1/\BM x/\Win q n (vo.take k) x post/\val x<BB*val f/\val post=0/\vo=vo.take k++x++post/\val x=vo.getD k 0+BB*val (vo.drop (k+1))/\(vo.take k).length=k:=by
 obtain⟨B,C,L,S,F,G,y,Q,W,I⟩:=h
 have H:vo=vo.take k++(vo.drop k).take (A+1)++vo.drop (k+(A+1)):=by
  exact ZjI
 have K:val f<BB^A:=by
  have:=Eg X;rwa [v]at this
 have Z:=Ec (l:=vo) (k:=k) ZbD;have s:=Iu vo k (A+1) ZbD;have M:=Bd C k
 have g:val (vo.drop k)<BB*val f:=by
  have:BB*(val (vo.drop (k+1))+1)<=BB*val f:=Yas _ W;rw[YaD]at this;omega
 have Y:val (vo.drop (k+(A+1)))=0:=by
  rcases Yaz (val (vo.drop (k+(A+1))))with h | h
  .exact h
  .exfalso
   have o:BB^(A+1)*1<=BB^(A+1)*val (vo.drop (k+(A+1))):=Yas _ h;have J:BB*val f<=BB*BB^A:=Yas _ (YbT K);have i:BB^(A+1)=BB*BB^A:=by rw[Ybq,YaM]
   omega
 rw[Y,Ycu,Ybd]at s;refine⟨(vo.drop k).take (A+1),vo.drop (k+(A+1)),by simp;omega,Di (Rj C k) _,?_,by rw[<-s];exact g,Y,H,by rw[<-s];exact Z,by simp;omega⟩;unfold Win;rw[<-H];exact L
theorem DvRel.step{w wr j:World}{c v U Q x a post:List Nat}{m A k q:Nat}(h:DvRel w wr n b c v U Q m A (k+1))(E:k+A<=m)(p:c.length=m+1)(F:x.length=A+1)(P:U=U.take k++x++post)(f:(U.take k).length=k)(g:val post=0)(u:val x=U.getD k 0+BB*val (U.drop (k+1)))
  (t:a.length=A+1) (z:BM a) (W:Win j n (U.take k) a post) (d:Only n wr j) (l:q<BB) (IR:val a+q*val v=val x) (G:val a<val v) (r:n<b) {e:Int} (I:e=(q:Nat)) :
  DvRel w (j.setCell ⟨b,k,none⟩ (.int .u32 e)) n b c v (U.take k++a++post) (Q.set k q) m A k:=by
 obtain⟨B,C,L,S,N,R,V,X,Y,s⟩:=h;have sU:BM (U.take k):=Di C k;have sp:BM post:=λy O=>C y (by rw[P];simp[O]);have o:k<U.length:=by omega
 have H:Blk j b 335 (wv Q):=(d.block b (Blk.lt R) ZbD).trans R
 have J:(U.take k++a++post).drop k=a++post:=by
  rw[Yaf,List.drop_append,YaL ZbD,f,Ydo];rfl
 have M:(U.take k++a++post).take k=U.take k:=by
  rw[Yaf,List.take_append,f,Ydo,Yap ZbD];simp
 have xb:c.take k=U.take k:=ZaD
 have xa:c.getD k 0=U.getD k 0:=ZaE
 refine⟨?_,?_,?_,by simpa using S,Do N k l,?_,?_,?_,?_,?_⟩
 .have Z:(U.take k++x++post).length=m+1:=by rw [<-P];exact B
  simp only[Yaa]at Z ⊢;omega
 .intro y O
  rcases YbP.1 O with O | O
  .rcases YbP.1 O with O | O
   .exact sU y O
   .exact z y O
  .exact sp y O
 .exact Blk.far W ZbW _
 .rw [I,<-Jo];exact H.set k _
 .rw [J, HB g, Ec (l:=c) ZbD, Ec (l:=Q.set k q) (by rw [Yct]; omega), Ld, Cp ZbD, V, xa]
  have:BB*(val (Q.drop (k+1))*val v+val (U.drop (k+1)))=BB*val (Q.drop (k+1))*val v+BB*val (U.drop (k+1)):=by rw[YaD,YaY]
  rw[this,YbC];omega
 .rw [M,xb]
 .rw [J,HB g];exact G
 .have T:Below n w j:=⟨d.os.trans s.os, d.tape.trans s.tape, d.output.trans s.output, Yat s.size d.size, λi K=>(d.block i (by have:=Blk.lt L; omega) ZbD).trans (s.block i K)⟩
  exact Below.setCell T ZbW _
theorem ZU(J:(As n).length=b+1)(M:(As n).getD b 0=T)(c:0<T)(N:m=BB/(T+1)) :
  0<m/\m<BB/\(As (n*m)).length=b+1/\2147483648<=(As (n*m)).getD b 0:=by
 have Q:T<BB:=by rw[<-M];exact Bd (BG n) b
 have U:(T+1)*m<=BB:=by rw[N];exact Nat.mul_div_le BB (T+1)
 have u:0<m:=by rw[N];exact YeM ZbD ZbD
 have R:m<BB:=by
  have:2*m<=(T+1)*m:=YaB _ ZbD;have:=CQ;omega
 have W:2147483648<=T*m:=by
  have C:BB<(T+1)*(m+1):=by rw[N];exact Yee BB ZbD
  rw[YbC,YaD,YbB,YcA]at C;rw[BF]at *;obtain⟨a,rfl⟩:∃a,T=a+1:=⟨T-1,by omega⟩;obtain⟨A,F⟩:∃A,m=A+1:=⟨m-1,by omega⟩;have e:(a+1)*m=a*A+a+A+1:=by rw[F,YbC,YaD];omega
  omega
 have K:=Eh J;rw[AJ,M]at K
 have V:val ((As n).take b)<BB^b:=by
  have:=Eg (Di (BG n) b);exact ZjG
 have O:n*m<BB^(b+1):=by
  have L:n+1<=BB^b*(T+1):=Zhp
  have S:(n+1)*m<=BB^b*(T+1)*m:=YaB _ L;have I:BB^b*(T+1)*m<=BB^b*BB:=by rw[YaY];exact Yas _ U
  rw[Ybq];rw[YbC]at S;omega
 have X:BB^b*2147483648<=n*m:=by
  have L:BB^b*T<=n:=by omega
  have S:BB^b*T*m<=n*m:=YaB _ L;have I:BB^b*2147483648<=BB^b*(T*m):=Yas _ W;rw[YaY]at S;omega
 generalize n*m=z at *
 have p:(As z).length=b+1:=by
  have B:=Eg (BG z);rw[AJ]at B
  have C:b<(As z).length:=by
   rcases YaG b (As z).length with h | h
   .exact h
   .have L:BB^(As z).length<=BB^b:=Ybk CQ h
    have S:BB^b*1<=BB^b*2147483648:=Yas _ ZbD;omega
  rcases YaG (b+1) (As z).length with h | h
  .exfalso
   obtain⟨k,E⟩:∃k,(As z).length=k+1:=⟨(As z).length-1,by omega⟩;have e:=Eh E;rw[AJ]at e;have L:=DM E;have S:BB^k*1<=BB^k*(As z).getD k 0:=Yas _ L;have G:BB^(b+1)<=BB^k:=Ybk CQ ZbD;omega
  .omega
 refine⟨u,R,p,?_⟩;have e:=Eh p;rw[AJ]at e
 have g:val ((As z).take b)<BB^b:=by
  have:=Eg (Di (BG z) b);exact ZjG
 have y:BB^b*2147483648<BB^b*((As z).getD b 0+1):=Zhp
 have:=Ybs y;omega
theorem A3c{a b D q r:Nat}(Y:0<D)(F:0<b)(h:a*D=q*(b*D)+r)(X:r<b*D):a/b=q/\r/D=a%b:=by
 have A:(a*D)/(b*D)=q:=by
  rw[h,YaM q,YcN (YcS F Y),YbI X,Ybd]
 have B:(a*D)%(b*D)=r:=by
  exact ZjJ
 rw[Nat.mul_div_mul_right _ _ Y]at A;rw[Nat.mul_mod_mul_right]at B;refine⟨A,?_⟩;rw[<-B,Nat.mul_div_cancel _ Y]
theorem Va(E:(As n).length=T)(O:(As b).length=m+1)(i:m+1<=T)(f:l.length=T+1)(G:val l=n*c)(N:0<c):val (l.drop (T-(m+1)+1))<b*c:=by
 have A:n<BB^T:=by have:=Eg (BG n);rwa [AJ,E]at this
 have B:BB^m<=b:=by
  have e:=Eh O;rw[AJ]at e;have:=DM O;have L:BB^m*1<=BB^m*(As b).getD m 0:=Yas _ this;omega
 have Z:T-(m+1)+1=T-m:=by omega
 rw[Z]
 have L:val l=val (l.take (T-m))+BB^(T-m)*val (l.drop (T-m)):=by
  have:=Iv (l.take (T-m)) (l.drop (T-m));exact ZhE
 have S:n*c<BB^T*c:=Yeg A N
 have C:BB^T*c=BB^(T-m)*(BB^m*c):=by
  rw[<-YaY,<-YcG,show T-m+m=T by omega]
 have F:BB^(T-m)*val (l.drop (T-m))<BB^(T-m)*(BB^m*c):=by omega
 have g:=Ybs F;have y:BB^m*c<=b*c:=YaB _ B;omega
theorem ZV(E:(As n).length=b)(N:T<BB):(As (n*T)).length<=b+1:=by
 have A:n<BB^b:=by have:=Eg (BG n);rwa [AJ,E]at this
 have B:n*T<BB^(b+1):=by
  rw[Ybq];rcases Yaz T with h | h
  .rw [h,Ycu];exact YcS (Yef CQ) CQ
  .exact Yaq (Yeg A h) (Yas _ (YbT N))
 generalize n*T=z at *;rcases YaG (b+1) (As z).length with h | h
 .exfalso
  obtain⟨k,C⟩:∃k,(As z).length=k+1:=⟨(As z).length-1,by omega⟩;have e:=Eh C;rw[AJ]at e;have L:=DM C;have S:BB^k*1<=BB^k*(As z).getD k 0:=Yas _ L;have F:BB^(b+1)<=BB^k:=Ybk CQ ZbD;omega
 .exact h
theorem A2s(n:Nat):val (List.replicate n 0)=0:=by
 induction n with
 |zero=>rfl
 |succ n u=>simp[YdY,val,u]
theorem Words.cellAt{b o n c:Nat}(h:Words w (.slice (some ⟨b,o,none⟩) n c) l){i:Nat}(K:i<l.length):w.cell? ⟨b,o+i,none⟩=some (.int .u32 (l.getD i 0:Nat)):=by
 obtain⟨A,C,r,_,_,E⟩:=h.open_;cases r;obtain⟨y,B,e,_,N⟩:=E ZbD;cases e;exact N i K
theorem A3x(b C F n E T P:Nat)(pre post u v:List Nat)(w:World)(M:pre.length=P)(B:Win w b pre u post)(S:u.length=n+1)(r:v.length=n)(e:2<=n)(f:n<=4398046511104)(A:BM u)(X:BM v)
  (x:∀i,i<n->w.cell? ⟨C,F+i,none⟩=some (.int .u32 (v.getD i 0:Nat))) (o:n+1<=E) (q:n<=T) (R:2147483648<=v.getD (n-1) 0) (Q:val u<BB*val v) :
  Calls prog 311 #[.slice (some ⟨b,P,none⟩) (n+1) E,.slice (some ⟨C,F,none⟩) n T] w (YT w u v):=by
 subst M;exact A0E b C F n E T pre post u v w B S r e f A X x o q R Q
theorem YU(q V:Value)(x y:Nat)(w:World)(p:Words w q (As x))(F:Words w V (As y))(Q:x<y) :
  Calls prog 282 #[q,V] w (Ln x y w):=by
 obtain⟨A,n,c,rfl⟩:=p.form;replace p:=Af p;replace F:=Af F;have T:Fx x y<0:=by unfold Fx;rw[Yan Q];omega
 replace Q:=Af Q;go_enter func282,ntmps282;go_wp2_with fail;refine(Hz _ _ _ _ _ p.out F.out).mono ?_;rintro e L ⟨rfl,j⟩;replace p:=Af (p.out.ext j);replace j:=Af j;go_wp2;go_ret2;refine⟨_,_,_,_,_,_,rfl,?_,?_,j.out⟩
 .exact ZiI
 .rw [YaS Q.out];exact p.out
theorem Wi(q V:Value)(x y:Nat)(w:World)(p:Words w q (As x))(F:Words w V (As y))(f:(As x).length<=4398046511104)(L:y<=x)(A:(As y).length=1) :
  Calls prog 282 #[q,V] w (Ln x y w):=by
 have T:¬Fx x y<0:=by unfold Fx;rw[Yai ZbD];split<;>omega
 obtain⟨t,M⟩:∃t,As y=[t]:=by
  match B:As y,A with
  |[t],_=>exact⟨t,rfl⟩
 have U:Hid (y=t):=by
  show y=t;rw[<-AJ y,M];simp[val]
 have b:t<4294967296:=by
  have:=BG y t (by rw[M];simp);rwa [BF]at this
 have a:0<t:=by
  have:=DM (y:=y) (n:=0) A;rw[M]at this;exact ZjF
 replace f:=Af f;replace L:=Af L;clear A;replace p:=Af p;replace F:=Af F;replace M:=Af M;go_enter func282,ntmps282;go_wp2_with fail;refine(Hz _ _ _ _ _ p.out F.out).mono ?_;rintro e N ⟨rfl,j⟩;have I:=Af (p.out.ext j);have g:=F.out.ext j;replace j:=Af j;rw[M.out]at g;obtain⟨R,E,rfl,W,c,S⟩:=g.open_;obtain⟨C,O,rfl,J,z⟩:=S ZbS;replace z:N.cell? ⟨C,O,none⟩=some (.int .u32 (t:Nat)):=z 0 ZbS;clear S g;go_wp2_with fail;refine(NI _ _ t _ I.out f.out a b).mono ?_;rintro e Y ⟨P,rfl,G,l⟩;obtain⟨m,u,K,rfl⟩:=G.form;replace G:=Af G;replace l:=Af (j.out.trans l);have k:val (As x)%t<18446744073709551616:=by have:=YaT (val (As x)) a;omega
 replace k:=Af k;clear z;go_wp2_with fail;refine(IK _ _ k.out).mono ?_;rintro e h ⟨n,rfl,Z,Q⟩;obtain⟨d,i,X,rfl⟩:=Z.form;replace G:=Af (G.out.ext Q);replace Z:=Af Z;replace Q:=Af (l.out.trans Q);go_wp2;go_ret2;refine⟨_,_,_,_,_,_,rfl,?_,?_,Q.out⟩
 .have:=G.out;rw[AJ]at this;rw[U.out];exact this
 .have:=Z.out;rw[AJ]at this;rw[U.out];exact this
set_option maxRecDepth 1000000 in
theorem Wj(va vb:Value)(x y:Nat)(w:World)(p:Words w va (As x))(F:Words w vb (As y))(R:(As x).length<=4398046511103)(xh:y<=x)(B:2<=(As y).length) :
  Calls prog 282 #[va,vb] w (Ln x y w):=by
 have yo:¬Fx x y<0:=by unfold Fx;rw[Yai ZbD];split<;>omega
 have xa:=BQ xh;obtain⟨n,b⟩:∃n,(As y).length=n+1:=⟨(As y).length-1,by omega⟩;obtain⟨m,xb⟩:∃m,(As x).length=m:=⟨_,rfl⟩;have xN:=DM b;have xO:=Bd (BG y) n;generalize M:(As y).getD n 0=t at *;unfold BB at xO;obtain⟨D,hD⟩:∃D,D=BB/(t+1):=⟨_,rfl⟩;obtain⟨yg,yl,xn,xA⟩:=ZU b M xN hD;have yC:(4294967296:Int)/((t:Int)+1)=(D:Int):=by rw[hD,BF];rfl
 have yk:=ZV xb yl
 have yb:0<y:=by
  rcases Yaz y with h | h
  .rw [h,BL]at b;simp at b
  .exact h
 have yu:0<(As (x*D)).length:=by
  rcases Yaz (As (x*D)).length with h | h
  .have:=Bs.1 h
   have:=YcS (show 0<x by omega) yg;omega
  .exact h
 rw[xb]at R xa;rw[b]at xa B;have xt:1<=n:=by omega
 clear B;unfold BB at yl
 have yG:Hid ((As D).length<=4398046511104):=by
  have A:=Eg (BG D);rw[AJ]at A;show _<=_;rcases YaG 2 (As D).length with h | h
  .exfalso
   obtain⟨k,C⟩:∃k,(As D).length=k+1:=⟨(As D).length-1,by omega⟩;have e:=Eh C;rw[AJ]at e;have L:=DM C;have S:BB^k*1<=BB^k*(As D).getD k 0:=Yas _ L;have G:BB<=BB^k:=by have:=Ybk CQ (show 1<=k by omega);rwa [Nat.pow_one]at this
   have J:=BF;omega
  .omega
 replace M:=Af M;replace b:=Af b;replace xb:=Af xb;replace xh:=Af xh;replace hD:=Af hD;replace xn:=Af xn;replace xA:=Af xA;replace yk:=Af yk;replace yu:=Af yu;replace yb:=Af yb;have yJ:=λW=>CA (m+1) ZbD .i64 .i64 W;have xv:=λW=>CA (m-(n+1)+1) ZbD .i64 .i64 W;have xH:((m-(n+1)+1:Nat):Int)=(m:Int)-((n:Int)+1)+1:=by omega
 rw[xH]at xv;simp only[Ycq,Yea]at yJ;clear xH;replace p:=Af p;replace F:=Af F;go_enter func282,ntmps282;go_wp2_with fail;refine(Hz _ _ _ _ _ p.out F.out).mono ?_;rintro e j ⟨rfl,H⟩;have s:=p.out.ext H;have T:=F.out.ext H;replace H:=Af H;clear p F;obtain⟨A1,O,rfl,xk,yT,xq⟩:=s.open_;clear xq;obtain⟨A2,d,rfl,xi,yj,xr⟩:=T.open_;obtain⟨b2,o2,rfl,xf,xx⟩:=xr (by rw[b.out];omega);replace xx:j.cell? ⟨b2,o2+n,none⟩=some (.int .u32 (t:Nat)):=by have:=xx n (by rw[b.out];omega);exact Ziu
 clear xr;rw[b.out]at xi T ⊢;rw[xb.out]at xk s ⊢;replace s:=Af s;replace T:=Af T;have yU:(((n+1:Nat):Int)==1)=false:=Zip
 go_wp2_with fail;refine(IK D _ ZbD).mono ?_;rintro e u ⟨vd,rfl,xJ,P⟩;replace s:=Af (s.out.ext P);replace T:=Af (T.out.ext P);replace P:=Af (H.out.trans P);replace xJ:=Af xJ;clear H xx;go_wp2_with fail;refine(Ks _ _ _ _ _ T.out xJ.out (by rw[b.out];omega) yG.out).mono ?_;rintro e w3 ⟨vv,rfl,yi,xc⟩;rw[AJ,AJ]at yi;replace s:=Af (s.out.ext xc);replace xc:=Af (P.out.trans xc);clear P xJ T;obtain⟨Av,cv,rfl,xC,ze,ya⟩:=yi.open_;obtain⟨bv,ov,rfl,ye,zc⟩:=ya Zeg;rw[xn.out]at xC yi ⊢;replace yi:=Af yi;clear ya;have sv:=Af (BG (y*D));have xU:Hid (val (As (y*D))=y*D):=AJ _;generalize As (y*D)=v at *;have yf:Hid (Blk (w3.alloc (.cells (wv (List.replicate (m+1) 0)) 335)) w3.heap.size 335 (wv (List.replicate (m+1) 0))):=Blk.new _ _ _;have xD:Hid (Ext w3 (w3.alloc (.cells (wv (List.replicate (m+1) 0)) 335))):=(Ext.refl _).alloc _;go_wp2_with fail;generalize (w3.alloc (.cells (wv (List.replicate (m+1) 0)) 335))=w4 at *;refine(IK D _ ZbD).mono ?_;rintro e w5 ⟨vd,rfl,xJ,xs⟩;replace s:=Af (s.out.ext (xD.out.trans xs));replace yf:=Af (yf.out.ext xs);replace xD:=Af (xD.out.trans xs);replace xJ:=Af xJ;clear xs;go_wp2_with fail;refine(Ks _ _ _ _ _ s.out xJ.out (by rw[xb.out];omega) yG.out).mono ?_;rintro e w6 ⟨vu,rfl,xK,yy⟩;rw[AJ,AJ]at xK;replace yf:=Af (yf.out.ext yy);replace xD:=Af (xD.out.trans yy);clear yy xJ s;obtain⟨Au,cu,rfl,xS,xT,_⟩:=xK.open_;have yP:=BG (x*D);have yN:val (As (x*D))=x*D:=AJ _;generalize As (x*D)=u0 at *;obtain⟨w7,ys,xz,yh⟩:=Rn yf.out xK yu.out yk.out;obtain⟨ul,yq⟩:∃ul,ul=u0++List.replicate (m+1-u0.length) 0:=⟨_,rfl⟩;have yt:Hid (ul.length=m+1):=by have:=yk.out;rw[yq,Yaa,YdK];show _=_;omega
 have yr:Hid (BM ul):=λz o=>by
  rw[yq]at o;rcases YbP.1 o with h | h
  .exact yP z h
  .exact Cu _ z h
 have yO:Hid (val ul=x*D):=by rw[yq,HB (A2s _),yN];rfl
 rw[<-yq]at xz;have yn:Hid (Below w3.heap.size w3 w7):=⟨yh.os.trans xD.out.os,yh.tape.trans xD.out.tape,yh.output.trans xD.out.output,Yat xD.out.size yh.size,λi K=>(yh.block i (Yaq K xD.out.size) ZbD).trans (xD.out.block K)⟩;have zf:=Af yk.out;replace ys:=Af ys;replace xz:=Af xz;clear yh yf xD xK yP yN yu yk yq;have zd:=xc.out.size;generalize xI:w3.heap.size=gu at *;replace xI:=Af xI;go_upto_region 11 with(refine QP rfl _ _ _ rfl _ _ rfl rfl ys.out ?_)
 clear ys;have yQ:Hid (Ext w3 w7):=by rw[<-xI.out]at yn;exact yn.out
 have yF:Hid (Blk (w7.alloc (.cells (wv (List.replicate (m-(n+1)+1) 0)) 335)) gu 335 (wv ul)):=xz.out.alloc _;have yE:Hid (Blk (w7.alloc (.cells (wv (List.replicate (m-(n+1)+1) 0)) 335)) w7.heap.size 335 (wv (List.replicate (m-(n+1)+1) 0))):=Blk.new _ _ _;have yH:Hid (Below gu w3 (w7.alloc (.cells (wv (List.replicate (m-(n+1)+1) 0)) 335))):=Below.alloc yn.out (by have:=yn.out.size;have:=xI.out;omega) _;have xM:gu<w7.heap.size:=Blk.lt xz.out;have yK:=Af (Va xb.out b.out xa yt.out yO.out yg);go_upto_region 13 with(fail)
 generalize (w7.alloc (.cells (wv (List.replicate (m-(n+1)+1) 0)) 335))=w8 at *;generalize w7.heap.size=gq at *;clear yn xz xv yJ yQ;go_loopw [13] (λi wr=>∃(k:Nat) (U Q:List Nat),k<=m-(n+1)+1/\i=.int .i64 ((k:Int)-1)/\Hid (DvRel w3 wr gu gq ul v U Q m (n+1) k)) (λi _=>(intOf i+1).toNat)
 case atStart=>
  refine⟨m-(n+1)+1,ul,List.replicate (m-(n+1)+1) 0,Yah _,by congr 1;omega,yt.out,yr.out,yF.out,by simp,Cu _,yE.out,?_,rfl,?_,yH.out⟩
  .exact ZaF
  .rw [xU.out];exact yK.out
 case round=>
  obtain⟨k,U,Q,C,rfl,N⟩:=hrel;clear yF yE yH yK;by_cases xj:k=0
  .subst xj
   have xR:Hid (Words wr (.slice (some ⟨gq,0,none⟩) (m-(n+1)+1) (m-(n+1)+1)) Q):=by
    have:=CI (c:=m-(n+1)+1) N.out.2.2.2.2.2.1 N.out.2.2.2.2.1 ZeJ ZbD;rw[N.out.2.2.2.1]at this;exact this
   have xK:Hid (Words wr (.slice (some ⟨gu,0,none⟩) (m+1) (m+1)) U):=by
    have:=CI (c:=m+1) N.out.2.2.1 N.out.2.1 (by rw[N.out.1];omega) ZbD;rw[N.out.1]at this;exact this
   have yS:Hid ((As (val U)).length<=4398046511104):=by
    have A:=HZ U;rw[Bn N.out.2.1,N.out.1]at A;show _<=_;omega
   have xd:Hid (x/y=val Q/\val U/D=x%y):=by
    have A:=N.out.2.2.2.2.2.2.1;have B:=N.out.2.2.2.2.2.2.2.2.1;simp only[YaU]at A B;rw[yO.out,xU.out]at A;rw[xU.out]at B;exact A3c yg yb.out A B
   have xu:Hid (Ext w wr):=xc.out.trans (by have:=N.out.2.2.2.2.2.2.2.2.2;rw[<-xI.out]at this;exact this);go_wp2_with fail;refine(FT _ _ _ xK.out).mono ?_;rintro e w9 ⟨v9,rfl,xQ,yc⟩;rw[Bn N.out.2.1]at xQ;replace xR:=Af (xR.out.ext yc);replace xu:=Af (xu.out.trans yc);replace xQ:=Af xQ;clear yc xK;go_wp2_with fail;refine(NI _ _ D _ xQ.out yS.out yg yl).mono ?_;rintro e yv ⟨v10,rfl,xB,yw⟩;rw[AJ,xd.out.2]at xB;obtain⟨yW,zg,yY,rfl⟩:=xB.form;replace xR:=Af (xR.out.ext yw);replace xu:=Af (xu.out.trans yw);replace xB:=Af xB;clear yw xQ;go_wp2_with fail;refine(FT _ _ _ xR.out).mono ?_;rintro e yD ⟨v11,rfl,xP,yx⟩;rw[Bn N.out.2.2.2.2.1,<-xd.out.1]at xP;obtain⟨yX,zh,yZ,rfl⟩:=xP.form;replace xB:=Af (xB.out.ext yx);replace xu:=Af (xu.out.trans yx);replace xP:=Af xP;clear yx xR;go_wp2;go_ret2;exact⟨_,_,_,_,_,_,rfl,xP.out,xB.out,xu.out⟩
  .obtain ⟨k, rfl⟩:∃q, k=q+1:=⟨k-1, by omega⟩
   have xg:((k+1:Nat):Int)-1=k:=by omega
   rw[xg];clear xg;obtain⟨X,post,xq,xr,xV,xW,xX,xY,xZ,xE⟩:=N.out.window ZbD xn.out sv.out;replace xq:=Af xq;replace xr:=Af xr;replace xV:=Af xV;replace xW:=Af xW;replace xX:=Af xX;replace xY:=Af xY;replace xZ:=Af xZ;replace xE:=Af xE
   have xG:Hid (∀wz,Only gu wr wz->Words wz (.slice (some ⟨bv,ov,none⟩) (n+1) cv) v):=Af λwz hO=>yi.out.old λi K=>by
    have yR:i<gu:=by rw[<-xI.out];exact K
    exact(hO.block i (by have:=Blk.lt N.out.2.2.1;omega) ZbD).trans (N.out.2.2.2.2.2.2.2.2.2.block i yR)
   have xw:Hid (∀i,i<n+1->wr.cell? ⟨bv,ov+i,none⟩=some (.int .u32 (v.getD i 0:Nat))):=Af λi K=>(xG.out wr (Only.refl _ _)).cellAt (by rw[xn.out];exact K);go_wp2_with fail;rw[show k+(n+1)+1-k=n+1+1 by omega];refine(A3x gu bv ov (n+1) _ _ k (U.take k) post X v wr xE.out xV.out xq.out xn.out ZbD ZbD xr.out sv.out xw.out ZbD xC xA.out xW.out).mono ?_;rintro e w9 ⟨q,rfl,l,yA,yB,yc⟩;have xo:q<4294967296:=by rwa [BF]at l
   have yz:Hid (Only gu wr w9):=(Only.refl _ _).ext yc;have xQ:=Af (xV.out.ext yc);replace yA:=Af yA;replace yB:=Af yB;replace l:=Af l;clear xw yc;go_wp2_with fail;refine(YQ gu (n+1+1) _ _ (U.take k) post X v q k w9 xE.out xQ.out xq.out Zeg ZbD xr.out sv.out (λwz hO=>xG.out wz (yz.out.trans hO)) ZbD l.out).mono ?_;rintro e yv ⟨X1,rfl,r,Y,xB,yd,xp⟩;replace yd:=Af (yz.out.trans yd);rw[xq.out]at r xp;clear yz xQ;have yV:(q:Int)%4294967296=(q:Int):=by omega
   by_cases xL:val X<q*val v
   .have yp:decide (val X<q*val v)=true:=by simpa using xL
    rw[Yan xL,YbB]at xp
    have xg:1<=q:=by
     rcases Yaz q with h | h
     .rw [h,YcC]at xL;omega
     .exact h
    rw[yp];replace r:=Af r;replace Y:=Af Y;replace xB:=Af xB;replace xp:=Af xp;replace xL:=Af xL;clear yp yV;go_wp2_with fail;refine(We gu (n+1+1) _ _ (U.take k) post X1 v k yv xE.out xB.out r.out Zeg ZbD Y.out sv.out (λwz hO=>xG.out wz (yd.out.trans hO)) ZbD).mono ?_;rintro e yD ⟨X2,c,rfl,f,s2,xP,ym,xy,I⟩;replace ym:=Af (yd.out.trans ym);rw[r.out]at f xy
    have yM:Hid (val X2+(q-1)*val v=val X/\val X2<val v):=by
     have xf:=Eg s2;rw[f]at xf
     have E:(q-1)*val v+val v=q*val v:=by
      obtain⟨a,rfl⟩:∃a,q=a+1:=⟨q-1,by omega⟩;rw[YbV,YbC,YcA]
     have A:=xp.out;have L:=xL.out;have S:=yB.out
     have xk:c=1:=by
      rcases Yaz c with h | h
      .subst h;omega
      .omega
     subst xk;rw[YbB]at xy;exact⟨by omega,by omega⟩
    have xF:Blk yD gq 335 (wv Q):=(ym.out.block _ (Blk.lt N.out.2.2.2.2.2.1) ZbD).trans N.out.2.2.2.2.2.1;have yL:yD.cell? ⟨gq,k,none⟩=some (.int .u32 (Q.getD k 0:Nat)):=by rw[xF.cell,Ea ZeJ]
    have xe:=xF.frozen k;have xm:=Af (N.out.step ZbD yt.out xq.out xY.out xE.out xX.out xZ.out f s2 xP ym.out (q:=q-1) ZcU yM.out.1 yM.out.2 xM (e:=((q-1:Nat):Int)) rfl);obtain⟨Z,hZ⟩:∃Z,q=Z+1:=⟨q-1,by omega⟩;have za:((q:Int)-1)=(Z:Int):=by omega
    have zb:(Z:Int)%4294967296=(Z:Int):=by omega
    rw[show q-1=Z by omega]at xm;clear f s2 xP ym xy I xF;subst hZ;exact Ziq
   .have yp:decide (val X<q*val v)=false:=by simpa using xL
    rw[Yai xL,Ycu,Ybd]at xp;rw[yp]
    have yI:val X1<val v:=by
     have xl:0<val v:=by have:=xW.out;rcases Yaz (val v)with h | h;rw[h]at this;omega;exact h
     have g:val X<(val X/val v+1)*val v:=by
      rw[YaM];exact Yee (val X) xl
     have V:(val X/val v+1)*val v<=(q+1)*val v:=YaB _ (by have:=yA.out;omega);rw[YbC q,YcA]at V;omega
    have xF:Blk yv gq 335 (wv Q):=(yd.out.block _ (Blk.lt N.out.2.2.2.2.2.1) ZbD).trans N.out.2.2.2.2.2.1;have yL:yv.cell? ⟨gq,k,none⟩=some (.int .u32 (Q.getD k 0:Nat)):=by rw[xF.cell,Ea ZeJ]
    have xe:=xF.frozen k;have xm:=Af (N.out.step ZbD yt.out xq.out xY.out xE.out xX.out xZ.out r Y xB yd.out l.out xp yI xM (e:=((q:Nat):Int)) rfl);clear r Y xB yd xp xF yI xL yp;exact Ziq
theorem Ku(q V:Value)(x y:Nat)(w:World)(p:Words w q (As x))(F:Words w V (As y))(f:(As x).length<=4398046511103)(c:y≠0) :
  Calls prog 282 #[q,V] w (Ln x y w):=by
 rcases YaG x y with h | h
 .exact YU q V x y w p F h
 .by_cases A:(As y).length=1
  .exact Wi q V x y w p F ZbD h A
  .have B:(As y).length≠0:=λe=>c (Bs.1 e)
   exact Wj q V x y w p F f h ZbD
theorem A62(b J:Bool)(A O:Option Addr)(n c G l:Nat)(x y:Int)(w:World)(h:IsInt w (.bool b) (.slice A n c) x)(K:IsInt w (.bool J) (.slice O G l) y)(f:(As x.natAbs).length<=4398046511104)(S:(As y.natAbs).length<=4398046511104) :
  Calls prog 215 #[.agg #[.bool b,.slice A n c],.agg #[.bool J,.slice O G l]] w (Jy (x*y) w):=by
 replace h:=Af h;replace K:=Af K;replace f:=Af f;replace S:=Af S;go_enter func215,ntmps215;go_wp2
 refine wp_region_v ZbI [[], [(5, 0)], [], [(7, 2)], [(6, 1), (8, 3)], [], [(10, 5)], [], [(12, 7)], [(11, 6), (13, 8)], [(9, 4), (14, 9)]] [[], [0], [], [2], [0, 1, 2, 3], [], [5], [], [7], [5, 6, 7, 8], [0, 1, 2, 3, 4, 5, 6, 7, 8, 9]]
  [λv _=>v=.pointer (some ⟨w.heap.size,0,none⟩),λv _=>v=.bool b,λv _=>v=.pointer (some ⟨w.heap.size+1,0,none⟩),λv _=>v=.bool J,λv _=>v=.bool (!(b==J)),λv _=>v=.pointer (some ⟨w.heap.size,1,none⟩),λv _=>v=.slice A n c,λv _=>v=.pointer (some ⟨w.heap.size+1,1,none⟩),λv _=>v=.slice O G l,λv N=>Words N v (As (val (As x.natAbs)*val (As y.natAbs))),λv N=>∃b A n c,v=.agg #[.bool b,.slice A n c]/\IsInt N (.bool b) (.slice A n c) (x*y)]
  rfl ZbI ZbI ?stab ?steps ?fin
 case stab=>exact Zjr
 case steps=>
  refine .cons ?s0 (.cons ?s1 (.cons ?s2 (.cons ?s3 (.cons ?s4 (.cons ?s5 (.cons ?s6 (.cons ?s7 (.cons ?s8 (.cons ?s9 (.cons ?s10 .nil))))))))))
  case s0=>
   exact Zid
  case s1=>
   intro N i V E p I t;exact ZhF
  case s2=>
   exact Zie
  case s3=>
   intro N i V E p I t;exact ZhA
  case s4=>
   intro N i V E p I t;have q:i (.tmp 6)=.bool b:=E.1 _ rfl;exact ZhD
  case s5=>
   exact Zid
  case s6=>
   intro N i V E p I t;exact ZhB
  case s7=>
   exact Zie
  case s8=>
   intro N i V E p I t;exact Zhx
  case s9=>
   intro N i V E p I t;have xc:i (.tmp 11)=.slice A n c:=E.1 _ rfl;have xe:i (.tmp 13)=.slice O G l:=E.2.1 _ rfl;refine CF ZeV (Ks _ _ _ _ _ (h.out.2.ext (((((Ext.refl _).alloc _).alloc _).alloc _).drew.trans V)) (K.out.2.ext (((((Ext.refl _).alloc _).alloc _).alloc _).drew.trans V)) f.out S.out) ?_;rintro e j ⟨T,rfl,L,Q⟩;exact⟨T,rfl,Q,L⟩
  case s10=>
   intro N i V E p I t;have e9:i (.tmp 9)=.bool (!(b==J)):=E.1 _ rfl;have xf:=E.2.1 _ rfl;refine CF Zfa (Iq (!(b==J)) _ _ _ xf) ?_;exact ZgP
 case fin=>
  intro g N V hF;obtain⟨X,z,m,u,s,o⟩:=hF 10 _ rfl;simp only[Yav,Ybv,Nat.reduceAdd,Ybp,YaU,Ybi,YbX,FA,Act.put,Yba,Yby,YbN,s];clear hF s;replace o:=Af o;obtain⟨R,a⟩:=V.cells;replace V:=Af V;go_wp2;refine bodyPost_ret (v:=.agg #[.bool X,.slice z m u]) (by simp[results,Tryz.results215,go_sem,R]) rfl ⟨_,_,_,_,rfl,?_,?_⟩
  .exact Zar
  .exact Zjs
theorem A61(b:Bool)(A:Option Addr)(n c:Nat)(z:Int)(w:World)(h:IsInt w (.bool b) (.slice A n c) z) :
  Calls prog 279 #[.agg #[.bool b,.slice A n c]] w (Jy (-z) w):=by
 have B:=Af h.neg_eq;replace h:=Af h;go_enter func279,ntmps279;go_wp2_with fail;refine(Iq (!b) _ _ _ (h.out.2.ext (((Ext.refl _).alloc _).alloc _))).mono ?_;rintro e J ⟨C,K,E,u,rfl,F,P⟩;rw[AJ,B.out]at F;replace F:=Af F;obtain⟨N,R⟩:=P.cells;replace P:=Af P;go_wp2;refine bodyPost_ret (v:=.agg #[.bool C,.slice K E u]) (by simp[results,Tryz.results279,go_sem,N]) rfl ⟨_,_,_,_,rfl,?_,?_⟩
 .have M:Ty J (w.heap.size+1) 109:=(Fu _ _ ZbS).ext P.out
  exact(F.out.set M ZbH _).set (M.set _ _) ZbH _
 .exact ((((Ext.refl _).alloc _).alloc _).trans P.out |>.set ZcE _).set ZcE _
theorem A3q(b:Bool)(A:Option Addr)(n c:Nat)(z:Int)(w:World)(h:IsInt w (.bool b) (.slice A n c) z) :
  Calls prog 238 #[.agg #[.bool b,.slice A n c]] w λe N=>e=.returned (.int .i64 z.sign)/\Ext w N:=by
 obtain⟨B,C⟩:=h;have s:=C.len;clear C;injection B with B
 cases b with
 |true=>
  have o:z<0:=Zjl
  clear B s;go_enter func238,ntmps238;go_wp2;go_ret;exact⟨by rw[Ybe o];rfl,(Ext.refl _).alloc _⟩
 |false=>
  have o:0<=z:=by
   have:¬z<0:=Zjl
   omega
  clear B;by_cases E:z=0
  .subst E
   obtain rfl:n=0:=by rw[s];show(As 0).length=0;rw[BL];rfl
   clear s;go_enter func238,ntmps238;go_wp2;go_ret;exact⟨rfl,(Ext.refl _).alloc _⟩
  .have m:n≠0:=by
    rw[s];intro e;have:=Bs.1 e;omega
   have Y:Hid (z.sign=1):=Af (Ybo ZbD);clear s E o;have F:¬(n:Int)<1:=by omega
   have k:1<=n:=by omega
   by_cases B:n=1
   .subst B
    go_enter func238,ntmps238;go_wp2;go_ret;exact⟨by rw[Y.out];rfl,(Ext.refl _).alloc _⟩
   .have G:1<n:=by omega
    have I:(1:Int)<n:=by omega
    go_enter func238,ntmps238;go_wp2;go_ret;exact⟨by rw[Y.out];exact A1K (k:=.i64) (a:=min (n:Int) 1) (b:=1) ZbD,(Ext.refl _).alloc _⟩
theorem SB(z:Int)(w:World)(c:0<=z)(x:z<18446744073709551616) :
  Calls prog 240 #[.int .u64 z] w λe N=>∃Y,e=.returned Y/\Words N Y (As z.toNat)/\Ext w N:=by
 obtain⟨m,rfl⟩:=YbH c;rw[YdE];exact IK m w ZbD
theorem A83(n:Int)(w:World)(c:-9223372036854775808<=n)(A:n<=9223372036854775807) :
  Calls prog 141 #[.int .i64 n] w λe N=>Jy n w e N:=by
 by_cases f:n<0
 .have B:decide (n<0)=true:=by simpa using f
  go_enter func141,ntmps141;go_wp2_with fail;rw[show -(n+1)+1=-n by omega];refine(SB _ _ ZbD ZbD).mono ?_;rintro e j ⟨Y,rfl,C,V⟩;go_wp2_with fail;refine(Iq _ _ _ _ C).mono ?_;rintro e J ⟨F,h,s,K,rfl,i,P⟩;replace P:=V.trans P;obtain⟨E,R⟩:=P.cells;replace i:=Af i;replace P:=Af P;clear V C;go_wp2;refine bodyPost_ret (v:=.agg #[.bool F,.slice h s K]) Zfe rfl ⟨_,_,_,_,rfl,?_,?_⟩
  .exact Zap
  .exact Zjq
 .have B:decide (n<0)=false:=by simpa using f
  go_enter func141,ntmps141;go_wp2_with fail;refine(SB _ _ ZbD ZbD).mono ?_;rintro e j ⟨Y,rfl,C,V⟩;go_wp2_with fail;refine(Iq _ _ _ _ C).mono ?_;rintro e J ⟨F,h,s,K,rfl,i,P⟩;replace P:=V.trans P;obtain⟨E,R⟩:=P.cells;replace i:=Af i;replace P:=Af P;clear V C;go_wp2;refine bodyPost_ret (v:=.agg #[.bool F,.slice h s K]) Zfe rfl ⟨_,_,_,_,rfl,?_,?_⟩
  .exact Zaq
  .exact Zjq
def A64(l:List Nat)(w:World)(e:Ending)(N:World):Prop:=∃Y,e=.returned Y/\Words N Y l/\Ext w N
theorem YV(Z b:Value)(x y:Nat)(w:World)(E:Words w Z (As x))(F:Words w b (As y))(f:(As x).length<=4398046511103)(W:(As y).length<=4398046511103) :
  Calls prog 283 #[Z,b] w (A64 (As (Nat.gcd x y)) w):=by
 obtain⟨A,n,c,rfl⟩:=E.form;obtain⟨R,g,l,rfl⟩:=F.form;generalize m:Nat.gcd x y=G at *;replace m:=Af m;replace E:=Af E;replace F:=Af F;replace f:=Af f;replace W:=Af W;go_enter func283,ntmps283;go_wp2;go_loopg [0,1] (y) (λk X Y wr=>A6B w G 4398046511103 k X Y wr)
 case atStart=>exact⟨_,_,_,_,_,_,_,_,rfl,rfl,E.out,F.out,m.out,rfl,f.out,W.out,Ext.refl _⟩
 case round=>
  obtain⟨p,q,T,U,t,L,o,J,rfl,rfl,N,V,xb,rfl,M,K,v⟩:=hrel;clear E F;have xh:=N.len;have xg:=V.len;by_cases xe:q=0
  .subst xe
   obtain rfl:o=0:=by rw[xg,BL];rfl
   have B:Hid (p=G):=by show p=G;rw[<-xb];simp
   replace N:=Af N;replace v:=Af v;clear xh xg xb V M K;go_wp2;go_ret;exact⟨_,rfl,by rw[<-B.out];exact N.out,v.out⟩
  .have xa:0<o:=by
    rcases Yaz o with h | h
    .exact absurd (Bs.1 (by rw[<-xg];exact h)) xe
    .exact h
   have xf:decide ((0:Int)<o)=true:=by simp;omega
   by_cases C:t<=2/\o<=2
   .obtain ⟨H,xc⟩:=C
    have u:decide ((t:Int)<=2)=true:=by simp;omega
    have r:decide ((o:Int)<=2)=true:=by simp;omega
    have xl:p<18446744073709551616:=by rw[<-A2p];exact FE ZbD
    have s:q<18446744073709551616:=by rw[<-A2p];exact FE ZbD
    have xj:=Af (show(As p).length<=2 by omega);have xk:=Af (show(As q).length<=2 by omega);replace N:=Af N;replace V:=Af V;replace xb:=Af xb;replace v:=Af v;replace xh:=Af xh;replace xg:=Af xg;clear M K;go_wp2_with fail;refine(PS _ _ _ N.out xj.out).mono ?_;rintro e j ⟨rfl,rfl⟩;rw[AJ];go_wp2_with fail;refine(PS _ _ _ V.out xk.out).mono ?_;rintro e j ⟨rfl,rfl⟩;rw[AJ];go_wp2_with fail;refine(YR p q _ xl s).mono ?_;rintro e j ⟨rfl,rfl⟩;rw[xb.out]
    have xm:G<18446744073709551616:=by
     rw[<-xb.out];exact YbU (Nat.gcd_le_right _ (Ybz xe)) s
    go_wp2_with fail;refine(IK G _ xm).mono ?_;rintro e O ⟨v2,rfl,I,P⟩;replace I:=Af I;replace P:=Af (v.out.trans P);go_wp2;go_ret;exact⟨_,rfl,I.out,P.out⟩
   .have xi:Hid ((As (p%q)).length<=4398046511103):=DQ (YbT (YaT p (Ybz xe))) K
    have Q:p%q<q:=YaT _ (Ybz xe);have z:Hid (Nat.gcd q (p%q)=G):=by rw[<-xb,YcK p q,YeL q p,YcK];rfl
    replace N:=Af N;replace V:=Af V;replace xb:=Af xb;replace v:=Af v;replace M:=Af M;replace K:=Af K;replace xh:=Af xh;replace xg:=Af xg;replace Q:=Af Q;by_cases H:t<=2
    .have xc:¬o<=2:=λh=>C ⟨H,h⟩
     have u:decide ((t:Int)<=2)=true:=by simp;omega
     have r:decide ((o:Int)<=2)=false:=by simp;omega
     replace C:=Af C;go_wp2_with fail;refine(Ku _ _ p q _ N.out V.out M.out xe).mono ?_;rintro e j ⟨A3,A4,n3,a,n4,i,rfl,xd,d,S⟩;replace V:=Af (V.out.ext S);replace S:=Af (v.out.trans S);replace d:=Af d;clear N v xd;go_wp2;go_roundg (p%q)
     case measure=>exact Q.out
     case rel=>exact⟨_,_,_,_,_,_,_,_,rfl,rfl,V.out,d.out,z.out,rfl,K.out,xi.out,S.out⟩
    .have u:decide ((t:Int)<=2)=false:=by simp; omega
     replace C:=Af C;go_wp2_with fail;refine(Ku _ _ p q _ N.out V.out M.out xe).mono ?_;rintro e j ⟨A3,A4,n3,a,n4,i,rfl,xd,d,S⟩;replace V:=Af (V.out.ext S);replace S:=Af (v.out.trans S);replace d:=Af d;clear N v xd;go_wp2;go_roundg (p%q)
     case measure=>exact Q.out
     case rel=>exact⟨_,_,_,_,_,_,_,_,rfl,rfl,V.out,d.out,z.out,rfl,K.out,xi.out,S.out⟩
theorem A63(b B:Bool)(A K:Option Addr)(n c g l:Nat)(x y:Int)(w:World)(h:IsInt w (.bool b) (.slice A n c) x)(C:IsInt w (.bool B) (.slice K g l) y)(f:(As x.natAbs).length<=4398046511103)(G:(As y.natAbs).length<=4398046511103) :
  Calls prog 226 #[.agg #[.bool b,.slice A n c],.agg #[.bool B,.slice K g l]] w (Jy (Nat.gcd x.natAbs y.natAbs) w):=by
 replace h:=Af h;replace C:=Af C;replace f:=Af f;replace G:=Af G;go_enter func226,ntmps226;go_wp2_with fail;refine(YV _ _ _ _ _ (h.out.2.ext ((((Ext.refl _).alloc _).alloc _).alloc _)) (C.out.2.ext ((((Ext.refl _).alloc _).alloc _).alloc _)) f.out G.out).mono ?_;rintro e j ⟨X,rfl,E,F⟩;obtain⟨S,t,L,rfl⟩:=E.form;replace E:=Af E;replace F:=Af F;go_wp2_with fail;refine(Iq false _ _ _ E.out).mono ?_;rintro e J ⟨I,V,O,u,rfl,Q,P⟩;rw[AJ,show Ka false (Nat.gcd x.natAbs y.natAbs)=((Nat.gcd x.natAbs y.natAbs:Nat):Int)from rfl]at Q;replace P:=Af (F.out.trans P);replace Q:=Af Q;obtain⟨N,R⟩:=P.out.cells;go_wp2;refine bodyPost_ret (v:=.agg #[.bool I,.slice V O u]) (by simp[results,Tryz.results226,go_sem,N]) rfl ⟨_,_,_,_,rfl,?_,?_⟩
 .have M:Ty J (w.heap.size+2) 109:=(Fu _ _ ZbS).ext P.out
  exact(Q.out.set M ZbH _).set (M.set _ _) ZbH _
 .exact (((((Ext.refl _).alloc _).alloc _).alloc _).trans P.out |>.set ZcE _).set ZcE _
def OP(x y:Int):Int:=if y<0 then -(Nat.gcd x.natAbs y.natAbs:Int)else(Nat.gcd x.natAbs y.natAbs:Int)
theorem A7t{x y:Int}(O:y≠0):OP x y≠0:=by
 have:Nat.gcd x.natAbs y.natAbs≠0:=λh=>by have:=(Nat.gcd_eq_zero_iff.1 h).2;omega
 unfold OP;split<;>omega
theorem A0h{x y:Int}(O:y≠0):(Rat.divInt x y).num=x/OP x y/\((Rat.divInt x y).den:Int)=y/OP x y:=by
 unfold OP;by_cases h:y<0
 .rw [Yan h,<-Rat.neg_divInt_neg]
  have A:=DL (x:=-x) (y:=-y) ZbD;rw[Yep,Yep]at A;have b:((Nat.gcd x.natAbs y.natAbs:Nat):Int)∣x:=YcU.2 (YcB _ _);have G:((Nat.gcd x.natAbs y.natAbs:Nat):Int)∣y:=YcU.2 (YbJ _ _);rw[A.1,A.2,Int.ediv_neg,Int.ediv_neg,Int.neg_ediv_of_dvd b,Int.neg_ediv_of_dvd G];exact⟨rfl,rfl⟩
 .rw [Yai h]
  exact DL ZbD
theorem A0e(p q:Rat):p*q=Rat.divInt (p.num*q.num) ((p.den:Int)*q.den):=by
 rw[Rat.mul_def,YdD];have:((p.den:Int)*q.den)=((p.den*q.den:Nat):Int):=by simp
 rw[this];rfl
theorem A68(b y:Bool)(A K:Option Addr)(n c g l:Nat)(p:Rat)(w:World)(h:IsRat w (.bool b) (.slice A n c) (.bool y) (.slice K g l) p) :
  Calls prog 228 #[.agg #[.bool b,.slice A n c,.bool y,.slice K g l]] w (Aaj (-p) w):=by
 have R:Hid (Blk ((w.alloc (.cells #[.bool b,.slice A n c,.bool y,.slice K g l] 111)).alloc (.cells #[.bool false,.slice none 0 0,.bool false,.slice none 0 0] 111)) w.heap.size 111 #[.bool b,.slice A n c,.bool y,.slice K g l]):=(Blk.new _ _ _).alloc _;have m:Hid (Blk ((w.alloc (.cells #[.bool b,.slice A n c,.bool y,.slice K g l] 111)).alloc (.cells #[.bool false,.slice none 0 0,.bool false,.slice none 0 0] 111)) (w.heap.size+1) 111 #[.bool false,.slice none 0 0,.bool false,.slice none 0 0]):=ES _ _ ZbS;have o:Hid (Ext w ((w.alloc (.cells #[.bool b,.slice A n c,.bool y,.slice K g l] 111)).alloc (.cells #[.bool false,.slice none 0 0,.bool false,.slice none 0 0] 111))):=((Ext.refl _).alloc _).alloc _;have X:=Af (h.ext o.out);clear h;go_enter func228,ntmps228;go_upto_region 1 with(fail)
 generalize ((w.alloc (.cells #[.bool b,.slice A n c,.bool y,.slice K g l] 111)).alloc (.cells #[.bool false,.slice none 0 0,.bool false,.slice none 0 0] 111))=wq at *;obtain⟨u,xd⟩:∃u,u=w.heap.size:=⟨_,rfl⟩;obtain⟨x,xe⟩:∃x,x=w.heap.size+1:=⟨_,rfl⟩;rw[<-xe]at m ⊢;rw[<-xd]at R ⊢;have T:w.heap.size<=x:=by omega
 clear xd xe
 refine wp_region_v ZbI [[], [(3, 0)], [(4, 1)], [], [(6, 3)], [(5, 2), (7, 4)]] [[], [0], [0, 1], [], [3], [0, 1, 2, 3, 4]]
  [λv _=>v=.pointer (some ⟨u,0,none⟩),λv _=>v=.agg #[.bool b,.slice A n c],λv N=>∃b A n c,v=.agg #[.bool b,.slice A n c]/\IsInt N (.bool b) (.slice A n c) (-p.num),λv _=>v=.pointer (some ⟨u,2,none⟩),λv _=>v=.agg #[.bool y,.slice K g l],λv N=>∃b A n c y K g l,v=.agg #[.bool b,.slice A n c,.bool y,.slice K g l]/\IsRat N (.bool b) (.slice A n c) (.bool y) (.slice K g l) (-p)]
  rfl ZbI ZbI ?stab ?steps ?fin
 case stab=>exact .cons (Stab.eq _) (.cons (Stab.eq _) (.cons (λ_ _ _ F ⟨b,A,n,c,B,C⟩=>⟨b,A,n,c,B,C.ext F⟩) (.cons (Stab.eq _) (.cons (Stab.eq _) (.cons (λ_ _ _ F ⟨b,A,n,c,y,K,g,l,B,C⟩=>⟨b,A,n,c,y,K,g,l,B,C.ext F⟩) .nil)))))
 case steps=>
  refine .cons ?s0 (.cons ?s1 (.cons ?s2 (.cons ?s3 (.cons ?s4 (.cons ?s5 .nil)))))
  case s0=>
   intro N i V E G I t;exact ZhS
  case s1=>
   intro N i V E G I t;have H:i (.tmp 3)=.pointer (some ⟨u,0,none⟩):=E.1 _ rfl;have W:N.cell? ⟨u,0,none⟩=some (.bool b):=V.cellv ((R.out.cell 0));have L:N.cell? ⟨u,1,none⟩=some (.slice A n c):=V.cellv ((R.out.cell 1));exact AD (by simp[execOp,H,W,L,go_sem]) rfl
  case s2=>
   intro N i V E G I t;have O:i (.tmp 4)=.agg #[.bool b,.slice A n c]:=E.1 _ rfl;refine CF (by simp[execOp,resolve,invoke,t,O,go_sem]) (A61 b A n c _ _ (X.out.1.ext ((Ext.refl _).drew.trans V))) ?_;rintro e j ⟨d,P,Q,k,rfl,xa,J⟩;exact⟨_,rfl,J,d,P,Q,k,rfl,xa⟩
  case s3=>
   intro N i V E G I t;exact ZhS
  case s4=>
   intro N i V E G I t;have S:i (.tmp 6)=.pointer (some ⟨u,2,none⟩):=E.1 _ rfl;have W:N.cell? ⟨u,2,none⟩=some (.bool y):=V.cellv ((R.out.cell 2));have L:N.cell? ⟨u,3,none⟩=some (.slice K g l):=V.cellv ((R.out.cell 3));exact AD (by simp[execOp,S,W,L,go_sem]) rfl
  case s5=>
   intro N i V E G I t;have f5:=E.1 _ rfl;have Y:i (.tmp 7)=.agg #[.bool y,.slice K g l]:=E.2.1 _ rfl;obtain⟨z,A6,n6,c6,f,xf⟩:=f5;exact AD (v:=.agg #[.bool z,.slice A6 n6 c6,.bool y,.slice K g l]) (by simp[execOp,f,Y,go_sem]) ⟨z,A6,n6,c6,_,_,_,_,rfl,xf,X.out.2.ext ((Ext.refl _).drew.trans V)⟩
 case fin=>
  intro gf N V hF;obtain⟨b8,A8,n8,xb,b9,A9,n9,c9,a,xc⟩:=hF 5 _ rfl;replace V:=Af ((Ext.refl _).drew.trans V);have U:=m.out.ext V.out;have z0:N.cell? ⟨x,0,none⟩=some (.bool false):=U.cell 0;have q:N.cell? ⟨x,1,none⟩=some (.slice none 0 0):=U.cell 1;have r:N.cell? ⟨x,2,none⟩=some (.bool false):=U.cell 2;have s:N.cell? ⟨x,3,none⟩=some (.slice none 0 0):=U.cell 3;have y0:=U.frozen 0;have y1:=U.frozen 1;have y2:=U.frozen 2;have y3:=U.frozen 3;have M:Ty N x 111:=U.ty;simp only[Yav,Ybv,Nat.reduceAdd,Ybp,YaU,Ybi,YbX,FA,Act.put,Yba,Yby,YbN,a];replace xc:=Af xc;replace U:=Af U;clear hF a;go_wp2;refine bodyPost_ret (v:=.agg #[.bool b8,.slice A8 n8 xb,.bool b9,.slice A9 n9 c9]) (by simp[results,Tryz.results228,go_sem,z0,q,r,s]) rfl ⟨_,_,_,_,_,_,_,_,rfl,?_,?_⟩
  .exact xc.out.put4 (b:=x) M ZbH (.bool b8) (.slice A8 n8 xb) (.bool b9) (.slice A9 n9 c9)
  .exact (o.out.trans V.out).put4 (b:=x) ZbD (.bool b8) (.slice A8 n8 xb) (.bool b9) (.slice A9 n9 c9)
