/- Part 8. No condition. -/
import Derived.Laws.CopyRow
import Derived.Test.YtcikkglcoeedlaaGreatDf5
import Derived.Test.YtcikkglcoeedlaaGreatDf7
set_option linter.unusedSimpArgs false
set_option linter.unusedVariables false
set_option maxRecDepth 100000
set_option maxHeartbeats 4000000
namespace Go.Proofs.YtcikkglcoeedlaaGreat
open _root_.Go.Proofs.Tryz
open Go.RowKit
variable{vZ:Array Oper}{l h vo vY:List Nat}{n b T m c:Nat}{z:Value}{w p uC:World}
theorem Words.old{v:Value}(h:Words w v l)(E:∀k,k<w.heap.size->p.heap[k]? = w.heap[k]?):Words p v l:=by
 obtain⟨A,c,r,F,x,Z,C⟩:=h;refine⟨A,c,r,F,x,Z,λG=>?_⟩;obtain⟨b,o,f,Q,q,B,K⟩:=C G;exact⟨b,o,f,Q,q,(E b (Bw B)).trans B,K⟩
theorem Rh{P:Program}{rest:List Oper}{o:Oper}{a:Act}{Q:Exit->Act->World->Prop}(R:o.guard=none)(s x:Operand)(t:TypeId)
  (m:o.op=.call { callee:=.builtin .copy,args:=#[s,x],argTypes:=#[t,t] }) (v u:Value) (Z:a.eval s=v) (C:a.eval x=u)
  (n:(Builtin.copy_ #[t,t] o.type #[v,u]).run P w=.ok z p) (h:wpList P vZ Q rest (a.put o.dst z) p):wpList P vZ Q (o::rest) a w:=by
 refine wpList_plain R λK q=>?_;unfold Oper.wp execOp;exact ZgG
theorem RD{A:Option Addr}{c:Nat}(T:Blk w n 335 (wv (List.replicate b 0)))(h:Words w (.slice A l.length c) l)(d:0<l.length)(I:l.length<=b) :
  ∃M,(Builtin.copy_ #[107,107] 3 #[.slice (some ⟨n,0,none⟩) b b,.slice A l.length c]).run prog w=.ok (goInt l.length) M/\Blk M n 335 (wv (l++List.replicate (b-l.length) 0))/\Only n w M:=by
 obtain⟨K,F,r,_,_,C⟩:=h.open_;cases r;obtain⟨q,o,rfl,E,N⟩:=C d;have t:(wv l).toList.length=l.length:=by simp[wv]
 have V := run_copy_row prog w 107 107 3 335 n 0 b b ⟨q, o, none⟩ l.length c (wv (List.replicate b 0)) 335 (wv l).toList underlying107 ZbK T (by rw [t]; exact (Ybx I).symm)
  (λj v W=>by
   have G:j<l.length:=by have:=(Yae.1 W).1;omega
   rw[A0L,N j G];rw[Ycr,Ed G]at W;exact W) (by rw[t,A75];simp;omega) (λv r=>by simp[wv]at r;obtain⟨x,_,rfl⟩:=r;rfl)
 rw[t]at V;refine⟨_,V,?_,⟨rfl,rfl,rfl,by simp[World.setRow],λk _ B=>setRow_other w n k _ B⟩⟩
 have e:((wv (List.replicate b 0)).toList.take 0++(wv l).toList++(wv (List.replicate b 0)).toList.drop (0+l.length)).toArray=wv (l++List.replicate (b-l.length) 0):=by
  simp[wv]
 rw[e];exact setRow_heap w n _ _ 335 _ T
def DvRel(w wr:World)(q A:Nat)(b v U Q:List Nat)(m n k:Nat):Prop:=
 U.length=m+1/\BN U/\Blk wr q 335 (wv U)/\Q.length=m-n+1/\BN Q/\Blk wr A 335 (wv Q) /\
 val (b.drop k)=val (Q.drop k)*val v+val (U.drop k)/\U.take k=b.take k/\val (U.drop k)<val v/\Below q w wr
theorem DvRel.window{m A k:Nat}(q:DvRel w p n b l h vo vY m A (k+1))(E:k+A<=m)(R:h.length=A)(L:BN h) :
  ∃x post,x.length=A+1/\BN x/\Win p n (vo.take k) x post/\val x<BB*val h/\val post=0/\vo=vo.take k++x++post/\val x=vo.getD k 0+BB*val (vo.drop (k+1))/\(vo.take k).length=k:=by
 obtain⟨B,C,K,Y,G,I,J,W,X,v⟩:=q
 have N:vo=vo.take k++(vo.drop k).take (A+1)++vo.drop (k+(A+1)):=by
  exact ZjR
 have j:val h<BB^A:=by
  have:=Ej L;rwa [R]at this
 have F:=Ee (l:=vo) (k:=k) ZbG;have y:=Iu vo k (A+1) ZbG;have Q:=Be C k
 have M:val (vo.drop k)<BB*val h:=by
  have:BB*(val (vo.drop (k+1))+1)<=BB*val h:=Yas _ X;rw[YaE]at this;omega
 have e:val (vo.drop (k+(A+1)))=0:=by
  rcases Yax (val (vo.drop (k+(A+1))))with q | q
  .exact q
  .exfalso
   have o:BB^(A+1)*1<=BB^(A+1)*val (vo.drop (k+(A+1))):=Yas _ q;have f:BB*val h<=BB*BB^A:=Yas _ (YbV j);have O:BB^(A+1)=BB*BB^A:=by rw[Ybr,YaN]
   omega
 rw[e,Yct,Ybi]at y;refine⟨(vo.drop k).take (A+1),vo.drop (k+(A+1)),by simp;omega,Di (Rx C k) _,?_,by rw[<-y];exact M,e,N,by rw[<-y];exact F,by simp;omega⟩;unfold Win;rw[<-N];exact K
theorem DvRel.step{g v U Q x f post:List Nat}{m A k q:Nat}(h:DvRel w p n b g v U Q m A (k+1))(E:k+A<=m)(u:g.length=m+1)(F:x.length=A+1)(R:U=U.take k++x++post)(l:(U.take k).length=k)(o:val post=0)(H:val x=U.getD k 0+BB*val (U.drop (k+1)))
  (s:f.length=A+1) (P:BN f) (X:Win uC n (U.take k) f post) (j:Only n p uC) (M:q<BB) (IL:val f+q*val v=val x) (O:val f<val v) (z:n<b) {e:Int} (a:e=(q:Nat)) :
  DvRel w (uC.setCell ⟨b,k,none⟩ (.int .u32 e)) n b g v (U.take k++f++post) (Q.set k q) m A k:=by
 obtain⟨B,C,K,Y,S,V,W,Z,c,d⟩:=h;have sU:BN (U.take k):=Di C k;have sp:BN post:=λy N=>C y (by rw[R];simp[N]);have t:k<U.length:=by omega
 have T:Blk uC b 335 (wv Q):=(j.block b (Blk.lt V) ZbG).trans V
 have I:(U.take k++f++post).drop k=f++post:=by
  exact ZhF
 have L:(U.take k++f++post).take k=U.take k:=by
  exact ZhD
 have xb:g.take k=U.take k:=ZaH
 have xa:g.getD k 0=U.getD k 0:=ZaI
 refine⟨?_,?_,?_,by simpa using Y,Do S k M,?_,?_,?_,?_,?_⟩
 .have G:(U.take k++x++post).length=m+1:=by rw [<-R];exact B
  simp only[Yaa]at G ⊢;omega
 .intro y N
  rcases YbQ.1 N with N | N
  .rcases YbQ.1 N with N | N
   .exact sU y N
   .exact P y N
  .exact sp y N
 .exact Blk.far X ZbZ _
 .rw [a,<-Jt];exact T.set k _
 .rw [I, HF o, Ee (l:=g) ZbG, Ee (l:=Q.set k q) (by rw [Ycg]; omega), Lh, Cr ZbG, W, xa]
  have:BB*(val (Q.drop (k+1))*val v+val (U.drop (k+1)))=BB*val (Q.drop (k+1))*val v+BB*val (U.drop (k+1)):=by rw[YaE,Ybb]
  rw[this,YbG];omega
 .rw [L,xb]
 .rw [I,HF o];exact O
 .have r:Below n w uC:=⟨j.os.trans d.os, j.tape.trans d.tape, j.output.trans d.output, Yat d.size j.size, λi J=>(j.block i (by have:=Blk.lt K; omega) ZbG).trans (d.block i J)⟩
  exact Below.setCell r ZbZ _
theorem A04(I:(Aw n).length=b+1)(L:(Aw n).getD b 0=T)(d:0<T)(M:m=BB/(T+1)) :
  0<m/\m<BB/\(Aw (n*m)).length=b+1/\2147483648<=(Aw (n*m)).getD b 0:=by
 have N:T<BB:=by rw[<-L];exact Be (BG n) b
 have O:(T+1)*m<=BB:=by rw[M];exact Nat.mul_div_le BB (T+1)
 have U:0<m:=by rw[M];exact YeM ZbG ZbG
 have S:m<BB:=by
  have:2*m<=(T+1)*m:=YaC _ ZbG;have:=CP;omega
 have V:2147483648<=T*m:=by
  have B:BB<(T+1)*(m+1):=by rw[M];exact Yef BB ZbG
  rw[YbG,YaE,YbF,YcB]at B;rw[BE]at *;obtain⟨a,rfl⟩:∃a,T=a+1:=⟨T-1,by omega⟩;obtain⟨q,E⟩:∃q,m=q+1:=⟨m-1,by omega⟩;have e:(a+1)*m=a*q+a+q+1:=by rw[E,YbG,YaE];omega
  omega
 have P:=Ek I;rw[AK,L]at P
 have j:val ((Aw n).take b)<BB^b:=by
  have:=Ej (Di (BG n) b);exact ZjP
 have o:n*m<BB^(b+1):=by
  have K:n+1<=BB^b*(T+1):=Zhr
  have Y:(n+1)*m<=BB^b*(T+1)*m:=YaC _ K;have G:BB^b*(T+1)*m<=BB^b*BB:=by rw[Ybb];exact Yas _ O
  rw[Ybr];rw[YbG]at Y;omega
 have Q:BB^b*2147483648<=n*m:=by
  have K:BB^b*T<=n:=by omega
  have Y:BB^b*T*m<=n*m:=YaC _ K;have G:BB^b*2147483648<=BB^b*(T*m):=Yas _ V;rw[Ybb]at Y;omega
 generalize n*m=z at *
 have J:(Aw z).length=b+1:=by
  have A:=Ej (BG z);rw[AK]at A
  have B:b<(Aw z).length:=by
   rcases YaD b (Aw z).length with h | h
   .exact h
   .have K:BB^(Aw z).length<=BB^b:=Ybn CP h
    have Y:BB^b*1<=BB^b*2147483648:=Yas _ ZbG;omega
  rcases YaD (b+1) (Aw z).length with h | h
  .exfalso
   obtain⟨k,C⟩:∃k,(Aw z).length=k+1:=⟨(Aw z).length-1,by omega⟩;have e:=Ek C;rw[AK]at e;have K:=DO C;have Y:BB^k*1<=BB^k*(Aw z).getD k 0:=Yas _ K;have F:BB^(b+1)<=BB^k:=Ybn CP ZbG;omega
  .omega
 refine⟨U,S,J,?_⟩;have e:=Ek J;rw[AK]at e
 have f:val ((Aw z).take b)<BB^b:=by
  have:=Ej (Di (BG z) b);exact ZjP
 have y:BB^b*2147483648<BB^b*((Aw z).getD b 0+1):=Zhr
 have:=Ybv y;omega
theorem A3t{a b D q r:Nat}(Z:0<D)(E:0<b)(h:a*D=q*(b*D)+r)(V:r<b*D):a/b=q/\r/D=a%b:=by
 have A:(a*D)/(b*D)=q:=by
  rw[h,YaN q,YcR (YcW E Z),YbJ V,Ybi]
 have B:(a*D)%(b*D)=r:=by
  exact ZjS
 rw[Nat.mul_div_mul_right _ _ Z]at A;rw[Nat.mul_mod_mul_right]at B;refine⟨A,?_⟩;rw[<-B,Nat.mul_div_cancel _ Z]
theorem Vt(C:(Aw n).length=T)(N:(Aw b).length=m+1)(k:m+1<=T)(o:l.length=T+1)(S:val l=n*c)(a:0<c):val (l.drop (T-(m+1)+1))<b*c:=by
 have q:n<BB^T:=by have:=Ej (BG n);rwa [AK,C]at this
 have A:BB^m<=b:=by
  have e:=Ek N;rw[AK]at e;have:=DO N;have K:BB^m*1<=BB^m*(Aw b).getD m 0:=Yas _ this;omega
 have B:T-(m+1)+1=T-m:=by omega
 rw[B]
 have K:val l=val (l.take (T-m))+BB^(T-m)*val (l.drop (T-m)):=by
  have:=Iv (l.take (T-m)) (l.drop (T-m));exact ZhP
 have Y:n*c<BB^T*c:=Yeh q a
 have E:BB^T*c=BB^(T-m)*(BB^m*c):=by
  rw[<-Ybb,<-YcG,show T-m+m=T by omega]
 have F:BB^(T-m)*val (l.drop (T-m))<BB^(T-m)*(BB^m*c):=by omega
 have f:=Ybv F;have y:BB^m*c<=b*c:=YaC _ A;omega
theorem A05(C:(Aw n).length=b)(a:T<BB):(Aw (n*T)).length<=b+1:=by
 have q:n<BB^b:=by have:=Ej (BG n);rwa [AK,C]at this
 have A:n*T<BB^(b+1):=by
  rw[Ybr];rcases Yax T with h | h
  .rw [h,Yct];exact YcW (Yeg CP) CP
  .exact Yaq (Yeh q h) (Yas _ (YbV a))
 generalize n*T=z at *;rcases YaD (b+1) (Aw z).length with h | h
 .exfalso
  obtain⟨k,B⟩:∃k,(Aw z).length=k+1:=⟨(Aw z).length-1,by omega⟩;have e:=Ek B;rw[AK]at e;have K:=DO B;have Y:BB^k*1<=BB^k*(Aw z).getD k 0:=Yas _ K;have E:BB^(b+1)<=BB^k:=Ybn CP ZbG;omega
 .exact h
theorem A2G(n:Nat):val (List.replicate n 0)=0:=by
 induction n with
 |zero=>rfl
 |succ n v=>simp[YdZ,val,v]
theorem Words.cellAt{b o n c:Nat}(h:Words w (.slice (some ⟨b,o,none⟩) n c) l){i:Nat}(J:i<l.length):w.cell? ⟨b,o+i,none⟩=some (.int .u32 (l.getD i 0:Nat)):=by
 obtain⟨A,k,r,_,_,C⟩:=h.open_;cases r;obtain⟨z,t,e,_,N⟩:=C ZbG;cases e;exact N i J
theorem A3L(b K j n z Q P:Nat)(pre post u v:List Nat)(w:World)(M:pre.length=P)(q:Win w b pre u post)(S:u.length=n+1)(r:v.length=n)(x:2<=n)(h:n<=4398046511104)(c:BN u)(A:BN v)
  (B:∀i,i<n->w.cell? ⟨K,j+i,none⟩=some (.int .u32 (v.getD i 0:Nat))) (C:n+1<=z) (y:n<=Q) (Y:2147483648<=v.getD (n-1) 0) (O:val u<BB*val v) :
  Calls prog 311 #[.slice (some ⟨b,P,none⟩) (n+1) z,.slice (some ⟨K,j,none⟩) n Q] w (Zc w u v):=by
 subst M;exact A0Q b K j n z Q pre post u v w q S r x h c A B C y Y O
theorem Zd(s Z:Value)(x y:Nat)(w:World)(l:Words w s (Aw x))(E:Words w Z (Aw y))(O:x<y) :
  Calls prog 282 #[s,Z] w (Lq x y w):=by
 obtain⟨A,n,c,rfl⟩:=l.form;replace l:=Af l;replace E:=Af E;have J:Fx x y<0:=by unfold Fx;rw[Yan O];omega
 replace O:=Af O;go_enter func282,ntmps282;go_wp2_with fail;refine(HD _ _ _ _ _ l.out E.out).mono ?_;rintro e L ⟨rfl,q⟩;replace l:=Af (l.out.ext q);replace q:=Af q;go_wp2;go_ret2;refine⟨_,_,_,_,_,_,rfl,?_,?_,q.out⟩
 .exact ZiU
 .rw [YaS O.out];exact l.out
theorem WB(s Z:Value)(x y:Nat)(w:World)(l:Words w s (Aw x))(E:Words w Z (Aw y))(h:(Aw x).length<=4398046511104)(J:y<=x)(q:(Aw y).length=1) :
  Calls prog 282 #[s,Z] w (Lq x y w):=by
 have g:¬Fx x y<0:=by unfold Fx;rw[Yai ZbG];split<;>omega
 obtain⟨t,L⟩:∃t,Aw y=[t]:=by
  match A:Aw y,q with
  |[t],_=>exact⟨t,rfl⟩
 have k:Hid (y=t):=by
  show y=t;rw[<-AK y,L];simp[val]
 have c:t<4294967296:=by
  have:=BG y t (by rw[L];simp);rwa [BE]at this
 have Y:0<t:=by
  have:=DO (y:=y) (n:=0) q;rw[L]at this;exact ZjO
 replace h:=Af h;replace J:=Af J;clear q;replace l:=Af l;replace E:=Af E;replace L:=Af L;go_enter func282,ntmps282;go_wp2_with fail;refine(HD _ _ _ _ _ l.out E.out).mono ?_;rintro e K ⟨rfl,B⟩;have G:=Af (l.out.ext B);have j:=E.out.ext B;replace B:=Af B;rw[L.out]at j;obtain⟨V,T,rfl,a,d,b⟩:=j.open_;obtain⟨I,M,rfl,i,N⟩:=b ZbV;replace N:K.cell? ⟨I,M,none⟩=some (.int .u32 (t:Nat)):=N 0 ZbV;clear b j;go_wp2_with fail;refine(NN _ _ t _ G.out h.out Y c).mono ?_;rintro e Q ⟨n,rfl,C,r⟩;obtain⟨v,P,F,rfl⟩:=C.form;replace C:=Af C;replace r:=Af (B.out.trans r);have p:val (Aw x)%t<18446744073709551616:=by have:=YaV (val (Aw x)) Y;omega
 replace p:=Af p;clear N;go_wp2_with fail;refine(IQ _ _ p.out).mono ?_;rintro e W ⟨o,rfl,X,O⟩;obtain⟨f,m,S,rfl⟩:=X.form;replace C:=Af (C.out.ext O);replace X:=Af X;replace O:=Af (r.out.trans O);go_wp2;go_ret2;refine⟨_,_,_,_,_,_,rfl,?_,?_,O.out⟩
 .have:=C.out;rw[AK]at this;rw[k.out];exact this
 .have:=X.out;rw[AK]at this;rw[k.out];exact this
set_option maxRecDepth 1000000 in
theorem WD(va vb:Value)(x y:Nat)(w:World)(l:Words w va (Aw x))(E:Words w vb (Aw y))(S:(Aw x).length<=4398046511103)(xh:y<=x)(B:2<=(Aw y).length) :
  Calls prog 282 #[va,vb] w (Lq x y w):=by
 have yo:¬Fx x y<0:=by unfold Fx;rw[Yai ZbG];split<;>omega
 have xa:=BR xh;obtain⟨n,d⟩:∃n,(Aw y).length=n+1:=⟨(Aw y).length-1,by omega⟩;obtain⟨m,xb⟩:∃m,(Aw x).length=m:=⟨_,rfl⟩;have xO:=DO d;have xP:=Be (BG y) n;generalize L:(Aw y).getD n 0=t at *;unfold BB at xP;obtain⟨D,hD⟩:∃D,D=BB/(t+1):=⟨_,rfl⟩;obtain⟨yg,yl,xn,xA⟩:=A04 d L xO hD;have yE:(4294967296:Int)/((t:Int)+1)=(D:Int):=by rw[hD,BE];rfl
 have yk:=A05 xb yl
 have xJ:0<y:=by
  rcases Yax y with h | h
  .rw [h,BL]at d;simp at d
  .exact h
 have yw:0<(Aw (x*D)).length:=by
  rcases Yax (Aw (x*D)).length with h | h
  .have:=Br.1 h
   have:=YcW (show 0<x by omega) yg;omega
  .exact h
 rw[xb]at S xa;rw[d]at xa B;have xt:1<=n:=by omega
 clear B;unfold BB at yl
 have yI:Hid ((Aw D).length<=4398046511104):=by
  have A:=Ej (BG D);rw[AK]at A;show _<=_;rcases YaD 2 (Aw D).length with h | h
  .exfalso
   obtain⟨k,C⟩:∃k,(Aw D).length=k+1:=⟨(Aw D).length-1,by omega⟩;have e:=Ek C;rw[AK]at e;have K:=DO C;have Y:BB^k*1<=BB^k*(Aw D).getD k 0:=Yas _ K;have I:BB<=BB^k:=by have:=Ybn CP (show 1<=k by omega);rwa [Nat.pow_one]at this
   have M:=BE;omega
  .omega
 replace L:=Af L;replace d:=Af d;replace xb:=Af xb;replace xh:=Af xh;replace hD:=Af hD;replace xn:=Af xn;replace xA:=Af xA;replace yk:=Af yk;replace yw:=Af yw;replace xJ:=Af xJ;have yL:=λW=>CB (m+1) ZbG .i64 .i64 W;have xv:=λW=>CB (m-(n+1)+1) ZbG .i64 .i64 W;have xH:((m-(n+1)+1:Nat):Int)=(m:Int)-((n:Int)+1)+1:=by omega
 rw[xH]at xv;simp only[Ycq,Yeb]at yL;clear xH;replace l:=Af l;replace E:=Af E;go_enter func282,ntmps282;go_wp2_with fail;refine(HD _ _ _ _ _ l.out E.out).mono ?_;rintro e g ⟨rfl,s⟩;have r:=l.out.ext s;have H:=E.out.ext s;replace s:=Af s;clear l E;obtain⟨A1,O,rfl,xk,yV,xo⟩:=r.open_;clear xo;obtain⟨A2,T,rfl,xj,yj,xr⟩:=H.open_;obtain⟨b2,o2,rfl,xg,xx⟩:=xr (by rw[d.out];omega);replace xx:g.cell? ⟨b2,o2+n,none⟩=some (.int .u32 (t:Nat)):=by have:=xx n (by rw[d.out];omega);rw[L.out]at this;exact this
 clear xr;rw[d.out]at xj H ⊢;rw[xb.out]at xk r ⊢;replace r:=Af r;replace H:=Af H;have yW:(((n+1:Nat):Int)==1)=false:=ZiB
 go_wp2_with fail;refine(IQ D _ ZbG).mono ?_;rintro e p ⟨vd,rfl,xK,P⟩;replace r:=Af (r.out.ext P);replace H:=Af (H.out.ext P);replace P:=Af (s.out.trans P);replace xK:=Af xK;clear s xx;go_wp2_with fail;refine(Kp _ _ _ _ _ H.out xK.out (by rw[d.out];omega) yI.out).mono ?_;rintro e w3 ⟨vv,rfl,yi,xc⟩;rw[AK,AK]at yi;replace r:=Af (r.out.ext xc);replace xc:=Af (P.out.trans xc);clear P xK H;obtain⟨Av,cv,rfl,xC,ze,yb⟩:=yi.open_;obtain⟨bv,ov,rfl,ye,zc⟩:=yb Zek;rw[xn.out]at xC yi ⊢;replace yi:=Af yi;clear yb;have sv:=Af (BG (y*D));have xV:Hid (val (Aw (y*D))=y*D):=AK _;generalize Aw (y*D)=v at *;have yf:Hid (Blk (w3.alloc (.cells (wv (List.replicate (m+1) 0)) 335)) w3.heap.size 335 (wv (List.replicate (m+1) 0))):=Blk.new _ _ _;have xD:Hid (Ext w3 (w3.alloc (.cells (wv (List.replicate (m+1) 0)) 335))):=(Ext.refl _).alloc _;go_wp2_with fail;generalize (w3.alloc (.cells (wv (List.replicate (m+1) 0)) 335))=w4 at *;refine(IQ D _ ZbG).mono ?_;rintro e w5 ⟨vd,rfl,xK,xs⟩;replace r:=Af (r.out.ext (xD.out.trans xs));replace yf:=Af (yf.out.ext xs);replace xD:=Af (xD.out.trans xs);replace xK:=Af xK;clear xs;go_wp2_with fail;refine(Kp _ _ _ _ _ r.out xK.out (by rw[xb.out];omega) yI.out).mono ?_;rintro e w6 ⟨vu,rfl,xL,yA⟩;rw[AK,AK]at xL;replace yf:=Af (yf.out.ext yA);replace xD:=Af (xD.out.trans yA);clear yA xK r;obtain⟨Au,cu,rfl,xT,xU,_⟩:=xL.open_;have yR:=BG (x*D);have yP:val (Aw (x*D))=x*D:=AK _;generalize Aw (x*D)=u0 at *;obtain⟨w7,yu,xz,yh⟩:=RD yf.out xL yw.out yk.out;obtain⟨ul,yq⟩:∃ul,ul=u0++List.replicate (m+1-u0.length) 0:=⟨_,rfl⟩;have yv:Hid (ul.length=m+1):=by have:=yk.out;rw[yq,Yaa,YdM];show _=_;omega
 have yr:Hid (BN ul):=λz u=>by
  rw[yq]at u;rcases YbQ.1 u with h | h
  .exact yR z h
  .exact Cx _ z h
 have yQ:Hid (val ul=x*D):=by rw[yq,HF (A2G _),yP];rfl
 rw[<-yq]at xz;have yn:Hid (Below w3.heap.size w3 w7):=⟨yh.os.trans xD.out.os,yh.tape.trans xD.out.tape,yh.output.trans xD.out.output,Yat xD.out.size yh.size,λi J=>(yh.block i (Yaq J xD.out.size) ZbG).trans (xD.out.block J)⟩;have zf:=Af yk.out;replace yu:=Af yu;replace xz:=Af xz;clear yh yf xD xL yR yP yw yk yq;have zd:=xc.out.size;generalize xI:w3.heap.size=gu at *;replace xI:=Af xI;go_upto_region 11 with(refine Rh rfl _ _ _ rfl _ _ rfl rfl yu.out ?_)
 clear yu;have yS:Hid (Ext w3 w7):=by rw[<-xI.out]at yn;exact yn.out
 have yH:Hid (Blk (w7.alloc (.cells (wv (List.replicate (m-(n+1)+1) 0)) 335)) gu 335 (wv ul)):=xz.out.alloc _;have yG:Hid (Blk (w7.alloc (.cells (wv (List.replicate (m-(n+1)+1) 0)) 335)) w7.heap.size 335 (wv (List.replicate (m-(n+1)+1) 0))):=Blk.new _ _ _;have yJ:Hid (Below gu w3 (w7.alloc (.cells (wv (List.replicate (m-(n+1)+1) 0)) 335))):=Below.alloc yn.out (by have:=yn.out.size;have:=xI.out;omega) _;have xN:gu<w7.heap.size:=Blk.lt xz.out;have yM:=Af (Vt xb.out d.out xa yv.out yQ.out yg);go_upto_region 13 with(fail)
 generalize (w7.alloc (.cells (wv (List.replicate (m-(n+1)+1) 0)) 335))=w8 at *;generalize w7.heap.size=gq at *;clear yn xz xv yL yS;go_loopw [13] (λi wr=>∃(k:Nat) (U Q:List Nat),k<=m-(n+1)+1/\i=.int .i64 ((k:Int)-1)/\Hid (DvRel w3 wr gu gq ul v U Q m (n+1) k)) (λi _=>(intOf i+1).toNat)
 case atStart=>
  refine⟨m-(n+1)+1,ul,List.replicate (m-(n+1)+1) 0,Yah _,by congr 1;omega,yv.out,yr.out,yH.out,by simp,Cx _,yG.out,?_,rfl,?_,yJ.out⟩
  .exact ZaJ
  .rw [xV.out];exact yM.out
 case round=>
  obtain⟨k,U,Q,C,rfl,N⟩:=hrel;clear yH yG yJ yM;by_cases xi:k=0
  .subst xi
   have xS:Hid (Words wr (.slice (some ⟨gq,0,none⟩) (m-(n+1)+1) (m-(n+1)+1)) Q):=by
    have:=CI (c:=m-(n+1)+1) N.out.2.2.2.2.2.1 N.out.2.2.2.2.1 ZeM ZbG;rw[N.out.2.2.2.1]at this;exact this
   have xL:Hid (Words wr (.slice (some ⟨gu,0,none⟩) (m+1) (m+1)) U):=by
    have:=CI (c:=m+1) N.out.2.2.1 N.out.2.1 (by rw[N.out.1];omega) ZbG;rw[N.out.1]at this;exact this
   have yU:Hid ((Aw (val U)).length<=4398046511104):=by
    have A:=Ia U;rw[Bo N.out.2.1,N.out.1]at A;show _<=_;omega
   have xd:Hid (x/y=val Q/\val U/D=x%y):=by
    have A:=N.out.2.2.2.2.2.2.1;have B:=N.out.2.2.2.2.2.2.2.2.1;simp only[YaP]at A B;rw[yQ.out,xV.out]at A;rw[xV.out]at B;exact A3t yg xJ.out A B
   have xu:Hid (Ext w wr):=xc.out.trans (by have:=N.out.2.2.2.2.2.2.2.2.2;rw[<-xI.out]at this;exact this);go_wp2_with fail;refine(FQ _ _ _ xL.out).mono ?_;rintro e w9 ⟨v9,rfl,xR,yc⟩;rw[Bo N.out.2.1]at xR;replace xS:=Af (xS.out.ext yc);replace xu:=Af (xu.out.trans yc);replace xR:=Af xR;clear yc xL;go_wp2_with fail;refine(NN _ _ D _ xR.out yU.out yg yl).mono ?_;rintro e yx ⟨v10,rfl,xB,yy⟩;rw[AK,xd.out.2]at xB;obtain⟨yY,zg,ys,rfl⟩:=xB.form;replace xS:=Af (xS.out.ext yy);replace xu:=Af (xu.out.trans yy);replace xB:=Af xB;clear yy xR;go_wp2_with fail;refine(FQ _ _ _ xS.out).mono ?_;rintro e yF ⟨v11,rfl,xQ,yz⟩;rw[Bo N.out.2.2.2.2.1,<-xd.out.1]at xQ;obtain⟨yZ,zh,yt,rfl⟩:=xQ.form;replace xB:=Af (xB.out.ext yz);replace xu:=Af (xu.out.trans yz);replace xQ:=Af xQ;clear yz xS;go_wp2;go_ret2;exact⟨_,_,_,_,_,_,rfl,xQ.out,xB.out,xu.out⟩
  .obtain ⟨k, rfl⟩:∃q, k=q+1:=⟨k-1, by omega⟩
   have xf:((k+1:Nat):Int)-1=k:=by omega
   rw[xf];clear xf;obtain⟨X,post,xo,xr,xW,xX,xY,xZ,ya,xE⟩:=N.out.window ZbG xn.out sv.out;replace xo:=Af xo;replace xr:=Af xr;replace xW:=Af xW;replace xX:=Af xX;replace xY:=Af xY;replace xZ:=Af xZ;replace ya:=Af ya;replace xE:=Af xE
   have xG:Hid (∀wz,Only gu wr wz->Words wz (.slice (some ⟨bv,ov,none⟩) (n+1) cv) v):=Af λwz hO=>yi.out.old λi J=>by
    have yT:i<gu:=by rw[<-xI.out];exact J
    exact(hO.block i (by have:=Blk.lt N.out.2.2.1;omega) ZbG).trans (N.out.2.2.2.2.2.2.2.2.2.block i yT)
   have xw:Hid (∀i,i<n+1->wr.cell? ⟨bv,ov+i,none⟩=some (.int .u32 (v.getD i 0:Nat))):=Af λi J=>(xG.out wr (Only.refl _ _)).cellAt (by rw[xn.out];exact J);go_wp2_with fail;rw[show k+(n+1)+1-k=n+1+1 by omega];refine(A3L gu bv ov (n+1) _ _ k (U.take k) post X v wr xE.out xW.out xo.out xn.out ZbG ZbG xr.out sv.out xw.out ZbG xC xA.out xX.out).mono ?_;rintro e w9 ⟨q,rfl,G,yC,yD,yc⟩;have xp:q<4294967296:=by rwa [BE]at G
   have yB:Hid (Only gu wr w9):=(Only.refl _ _).ext yc;have xR:=Af (xW.out.ext yc);replace yC:=Af yC;replace yD:=Af yD;replace G:=Af G;clear xw yc;go_wp2_with fail;refine(YZ gu (n+1+1) _ _ (U.take k) post X v q k w9 xE.out xR.out xo.out Zek ZbG xr.out sv.out (λwz hO=>xG.out wz (yB.out.trans hO)) ZbG G.out).mono ?_;rintro e yx ⟨X1,rfl,o,R,xB,yd,xq⟩;replace yd:=Af (yB.out.trans yd);rw[xo.out]at o xq;clear yB xR;have yX:(q:Int)%4294967296=(q:Int):=by omega
   by_cases xM:val X<q*val v
   .have yp:decide (val X<q*val v)=true:=by simpa using xM
    rw[Yan xM,YbF]at xq
    have xf:1<=q:=by
     rcases Yax q with h | h
     .rw [h,YcD]at xM;omega
     .exact h
    rw[yp];replace o:=Af o;replace R:=Af R;replace xB:=Af xB;replace xq:=Af xq;replace xM:=Af xM;clear yp yX;go_wp2_with fail;refine(Wy gu (n+1+1) _ _ (U.take k) post X1 v k yx xE.out xB.out o.out Zek ZbG R.out sv.out (λwz hO=>xG.out wz (yd.out.trans hO)) ZbG).mono ?_;rintro e yF ⟨X2,c,rfl,j,s2,xQ,ym,xy,F⟩;replace ym:=Af (yd.out.trans ym);rw[o.out]at j xy
    have yO:Hid (val X2+(q-1)*val v=val X/\val X2<val v):=by
     have xg:=Ej s2;rw[j]at xg
     have b:(q-1)*val v+val v=q*val v:=by
      obtain⟨a,rfl⟩:∃a,q=a+1:=⟨q-1,by omega⟩;rw[YbX,YbG,YcB]
     have A:=xq.out;have K:=xM.out;have Y:=yD.out
     have xk:c=1:=by
      rcases Yax c with h | h
      .subst h;omega
      .omega
     subst xk;rw[YbF]at xy;exact⟨by omega,by omega⟩
    have xF:Blk yF gq 335 (wv Q):=(ym.out.block _ (Blk.lt N.out.2.2.2.2.2.1) ZbG).trans N.out.2.2.2.2.2.1;have yN:yF.cell? ⟨gq,k,none⟩=some (.int .u32 (Q.getD k 0:Nat)):=by rw[xF.cell,Ed ZeM]
    have xe:=xF.frozen k;have xm:=Af (N.out.step ZbG yv.out xo.out xZ.out xE.out xY.out ya.out j s2 xQ ym.out (q:=q-1) ZcZ yO.out.1 yO.out.2 xN (e:=((q-1:Nat):Int)) rfl);obtain⟨Z,hZ⟩:∃Z,q=Z+1:=⟨q-1,by omega⟩;have za:((q:Int)-1)=(Z:Int):=by omega
    have zb:(Z:Int)%4294967296=(Z:Int):=by omega
    rw[show q-1=Z by omega]at xm;clear j s2 xQ ym xy F xF;subst hZ;exact ZiA
   .have yp:decide (val X<q*val v)=false:=by simpa using xM
    rw[Yai xM,Yct,Ybi]at xq;rw[yp]
    have yK:val X1<val v:=by
     have xl:0<val v:=by have:=xX.out;rcases Yax (val v)with h | h;rw[h]at this;omega;exact h
     have f:val X<(val X/val v+1)*val v:=by
      rw[YaN];exact Yef (val X) xl
     have V:(val X/val v+1)*val v<=(q+1)*val v:=YaC _ (by have:=yC.out;omega);rw[YbG q,YcB]at V;omega
    have xF:Blk yx gq 335 (wv Q):=(yd.out.block _ (Blk.lt N.out.2.2.2.2.2.1) ZbG).trans N.out.2.2.2.2.2.1;have yN:yx.cell? ⟨gq,k,none⟩=some (.int .u32 (Q.getD k 0:Nat)):=by rw[xF.cell,Ed ZeM]
    have xe:=xF.frozen k;have xm:=Af (N.out.step ZbG yv.out xo.out xZ.out xE.out xY.out ya.out o R xB yd.out G.out xq yK xN (e:=((q:Nat):Int)) rfl);clear o R xB yd xq xF yK xM yp;exact ZiA
theorem Ks(s Z:Value)(x y:Nat)(w:World)(l:Words w s (Aw x))(E:Words w Z (Aw y))(B:(Aw x).length<=4398046511103)(d:y≠0) :
  Calls prog 282 #[s,Z] w (Lq x y w):=by
 rcases YaD x y with h | h
 .exact Zd s Z x y w l E h
 .by_cases q:(Aw y).length=1
  .exact WB s Z x y w l E ZbG h q
  .have A:(Aw y).length≠0:=λe=>d (Br.1 e)
   exact WD s Z x y w l E B h ZbG
theorem A6i(b z:Bool)(A O:Option Addr)(n c E k:Nat)(x y:Int)(w:World)(h:IsInt w (.bool b) (.slice A n c) x)(V:IsInt w (.bool z) (.slice O E k) y)(G:(Aw x.natAbs).length<=4398046511104)(m:(Aw y.natAbs).length<=4398046511104) :
  Calls prog 215 #[.agg #[.bool b,.slice A n c],.agg #[.bool z,.slice O E k]] w (JB (x*y) w):=by
 replace h:=Af h;replace V:=Af V;replace G:=Af G;replace m:=Af m;go_enter func215,ntmps215;go_wp2
 refine wp_region_v ZbK [[], [(5, 0)], [], [(7, 2)], [(6, 1), (8, 3)], [], [(10, 5)], [], [(12, 7)], [(11, 6), (13, 8)], [(9, 4), (14, 9)]] [[], [0], [], [2], [0, 1, 2, 3], [], [5], [], [7], [5, 6, 7, 8], [0, 1, 2, 3, 4, 5, 6, 7, 8, 9]]
  [λv _=>v=.pointer (some ⟨w.heap.size,0,none⟩),λv _=>v=.bool b,λv _=>v=.pointer (some ⟨w.heap.size+1,0,none⟩),λv _=>v=.bool z,λv _=>v=.bool (!(b==z)),λv _=>v=.pointer (some ⟨w.heap.size,1,none⟩),λv _=>v=.slice A n c,λv _=>v=.pointer (some ⟨w.heap.size+1,1,none⟩),λv _=>v=.slice O E k,λv M=>Words M v (Aw (val (Aw x.natAbs)*val (Aw y.natAbs))),λv M=>∃b A n c,v=.agg #[.bool b,.slice A n c]/\IsInt M (.bool b) (.slice A n c) (x*y)]
  rfl ZbK ZbK ?stab ?steps ?fin
 case stab=>exact ZjA
 case steps=>
  refine .cons ?s0 (.cons ?s1 (.cons ?s2 (.cons ?s3 (.cons ?s4 (.cons ?s5 (.cons ?s6 (.cons ?s7 (.cons ?s8 (.cons ?s9 (.cons ?s10 .nil))))))))))
  case s0=>
   exact Zin
  case s1=>
   intro M i Q C l F p;exact ZhQ
  case s2=>
   exact Zio
  case s3=>
   intro M i Q C l F p;exact ZhL
  case s4=>
   intro M i Q C l F p;have s:i (.tmp 6)=.bool b:=C.1 _ rfl;exact ZhO
  case s5=>
   exact Zin
  case s6=>
   intro M i Q C l F p;exact ZhM
  case s7=>
   exact Zio
  case s8=>
   intro M i Q C l F p;exact ZhH
  case s9=>
   intro M i Q C l F p;have xc:i (.tmp 11)=.slice A n c:=C.1 _ rfl;have xe:i (.tmp 13)=.slice O E k:=C.2.1 _ rfl;refine Cz ZeX (Kp _ _ _ _ _ (h.out.2.ext (((((Ext.refl _).alloc _).alloc _).alloc _).drew.trans Q)) (V.out.2.ext (((((Ext.refl _).alloc _).alloc _).alloc _).drew.trans Q)) G.out m.out) ?_;rintro e J ⟨u,rfl,N,S⟩;exact⟨u,rfl,S,N⟩
  case s10=>
   intro M i Q C l F p;have e9:i (.tmp 9)=.bool (!(b==z)):=C.1 _ rfl;have xf:=C.2.1 _ rfl;refine Cz Zfc (Iq (!(b==z)) _ _ _ xf) ?_;exact ZgS
 case fin=>
  intro g M Q hF;obtain⟨j,R,d,T,I,r⟩:=hF 10 _ rfl;simp only[Yay,Ybk,Nat.reduceAdd,Ybf,YaP,Ybe,YbR,Fw,Act.put,YaW,Ybw,YbD,I];clear hF I;replace r:=Af r;obtain⟨W,o⟩:=Q.cells;replace Q:=Af Q;go_wp2;refine bodyPost_ret (v:=.agg #[.bool j,.slice R d T]) (by simp[results,Tryz.results215,go_sem,W]) rfl ⟨_,_,_,_,rfl,?_,?_⟩
  .exact Zas
  .exact ZjB
theorem A6h(b:Bool)(A:Option Addr)(n c:Nat)(z:Int)(w:World)(h:IsInt w (.bool b) (.slice A n c) z) :
  Calls prog 279 #[.agg #[.bool b,.slice A n c]] w (JB (-z) w):=by
 have q:=Af h.neg_eq;replace h:=Af h;go_enter func279,ntmps279;go_wp2_with fail;refine(Iq (!b) _ _ _ (h.out.2.ext (((Ext.refl _).alloc _).alloc _))).mono ?_;rintro e F ⟨B,V,y,C,rfl,x,P⟩;rw[AK,q.out]at x;replace x:=Af x;obtain⟨N,X⟩:=P.cells;replace P:=Af P;go_wp2;refine bodyPost_ret (v:=.agg #[.bool B,.slice V y C]) (by simp[results,Tryz.results279,go_sem,N]) rfl ⟨_,_,_,_,rfl,?_,?_⟩
 .have L:Ty F (w.heap.size+1) 109:=(Fu _ _ ZbV).ext P.out
  exact(x.out.set L ZbL _).set (L.set _ _) ZbL _
 .exact ((((Ext.refl _).alloc _).alloc _).trans P.out |>.set ZcR _).set ZcR _
theorem A3F(b:Bool)(A:Option Addr)(n c:Nat)(z:Int)(w:World)(h:IsInt w (.bool b) (.slice A n c) z) :
  Calls prog 238 #[.agg #[.bool b,.slice A n c]] w λe M=>e=.returned (.int .i64 z.sign)/\Ext w M:=by
 obtain⟨q,B⟩:=h;have y:=B.len;clear B;injection q with q
 cases b with
 |true=>
  have u:z<0:=Zjz
  clear q y;go_enter func238,ntmps238;go_wp2;go_ret;exact⟨by rw[Ybj u];rfl,(Ext.refl _).alloc _⟩
 |false=>
  have u:0<=z:=by
   have:¬z<0:=Zjz
   omega
  clear q;by_cases d:z=0
  .subst d
   obtain rfl:n=0:=by rw[y];show(Aw 0).length=0;rw[BL];rfl
   clear y;go_enter func238,ntmps238;go_wp2;go_ret;exact⟨rfl,(Ext.refl _).alloc _⟩
  .have l:n≠0:=by
    rw[y];intro e;have:=Br.1 e;omega
   have Z:Hid (z.sign=1):=Af (Ybq ZbG);clear y d u;have P:¬(n:Int)<1:=by omega
   have t:1<=n:=by omega
   by_cases q:n=1
   .subst q
    go_enter func238,ntmps238;go_wp2;go_ret;exact⟨by rw[Z.out];rfl,(Ext.refl _).alloc _⟩
   .have C:1<n:=by omega
    have m:(1:Int)<n:=by omega
    go_enter func238,ntmps238;go_wp2;go_ret;exact⟨by rw[Z.out];exact A1X (k:=.i64) (a:=min (n:Int) 1) (b:=1) ZbG,(Ext.refl _).alloc _⟩
theorem ST(z:Int)(w:World)(d:0<=z)(x:z<18446744073709551616) :
  Calls prog 240 #[.int .u64 z] w λe M=>∃b,e=.returned b/\Words M b (Aw z.toNat)/\Ext w M:=by
 obtain⟨m,rfl⟩:=YbH d;rw[YdF];exact IQ m w ZbG
theorem A8b(n:Int)(w:World)(d:-9223372036854775808<=n)(q:n<=9223372036854775807) :
  Calls prog 141 #[.int .i64 n] w λe M=>JB n w e M:=by
 by_cases h:n<0
 .have A:decide (n<0)=true:=by simpa using h
  go_enter func141,ntmps141;go_wp2_with fail;rw[show -(n+1)+1=-n by omega];refine(ST _ _ ZbG ZbG).mono ?_;rintro e g ⟨b,rfl,B,Q⟩;go_wp2_with fail;refine(Iq _ _ _ _ B).mono ?_;rintro e F ⟨m,l,t,Y,rfl,W,P⟩;replace P:=Q.trans P;obtain⟨N,X⟩:=P.cells;replace W:=Af W;replace P:=Af P;clear Q B;go_wp2;refine bodyPost_ret (v:=.agg #[.bool m,.slice l t Y]) Zfg rfl ⟨_,_,_,_,rfl,?_,?_⟩
  .exact Zaq
  .exact Zjy
 .have A:decide (n<0)=false:=by simpa using h
  go_enter func141,ntmps141;go_wp2_with fail;refine(ST _ _ ZbG ZbG).mono ?_;rintro e g ⟨b,rfl,B,Q⟩;go_wp2_with fail;refine(Iq _ _ _ _ B).mono ?_;rintro e F ⟨m,l,t,Y,rfl,W,P⟩;replace P:=Q.trans P;obtain⟨N,X⟩:=P.cells;replace W:=Af W;replace P:=Af P;clear Q B;go_wp2;refine bodyPost_ret (v:=.agg #[.bool m,.slice l t Y]) Zfg rfl ⟨_,_,_,_,rfl,?_,?_⟩
  .exact Zar
  .exact Zjy
def A6k(l:List Nat)(w:World)(e:Ending)(M:World):Prop:=∃b,e=.returned b/\Words M b l/\Ext w M
theorem Ze(s a:Value)(x y:Nat)(w:World)(l:Words w s (Aw x))(E:Words w a (Aw y))(C:(Aw x).length<=4398046511103)(m:(Aw y).length<=4398046511103) :
  Calls prog 283 #[s,a] w (A6k (Aw (Nat.gcd x y)) w):=by
 obtain⟨A,n,c,rfl⟩:=l.form;obtain⟨S,g,I,rfl⟩:=E.form;generalize o:Nat.gcd x y=G at *;replace o:=Af o;replace l:=Af l;replace E:=Af E;replace C:=Af C;replace m:=Af m;go_enter func283,ntmps283;go_wp2;go_loopg [0,1] (y) (λk X Y wr=>A6R w G 4398046511103 k X Y wr)
 case atStart=>exact⟨_,_,_,_,_,_,_,_,rfl,rfl,l.out,E.out,o.out,rfl,C.out,m.out,Ext.refl _⟩
 case round=>
  obtain⟨p,q,r,u,f,K,d,T,rfl,rfl,Q,j,xb,rfl,M,L,H⟩:=hrel;clear l E;have xh:=Q.len;have xg:=j.len;by_cases xf:q=0
  .subst xf
   obtain rfl:d=0:=by rw[xg,BL];rfl
   have B:Hid (p=G):=by show p=G;rw[<-xb];simp
   replace Q:=Af Q;replace H:=Af H;clear xh xg xb j M L;go_wp2;go_ret;exact⟨_,rfl,by rw[<-B.out];exact Q.out,H.out⟩
  .have xa:0<d:=by
    rcases Yax d with h | h
    .exact absurd (Br.1 (by rw[<-xg];exact h)) xf
    .exact h
   have xe:decide ((0:Int)<d)=true:=by simp;omega
   by_cases Z:f<=2/\d<=2
   .obtain ⟨U,xc⟩:=Z
    have v:decide ((f:Int)<=2)=true:=by simp;omega
    have z:decide ((d:Int)<=2)=true:=by simp;omega
    have xl:p<18446744073709551616:=by rw[<-A2E];exact FC ZbG
    have t:q<18446744073709551616:=by rw[<-A2E];exact FC ZbG
    have xj:=Af (show(Aw p).length<=2 by omega);have xk:=Af (show(Aw q).length<=2 by omega);replace Q:=Af Q;replace j:=Af j;replace xb:=Af xb;replace H:=Af H;replace xh:=Af xh;replace xg:=Af xg;clear M L;go_wp2_with fail;refine(Qf _ _ _ Q.out xj.out).mono ?_;rintro e F ⟨rfl,rfl⟩;rw[AK];go_wp2_with fail;refine(Qf _ _ _ j.out xk.out).mono ?_;rintro e F ⟨rfl,rfl⟩;rw[AK];go_wp2_with fail;refine(Za p q _ xl t).mono ?_;rintro e F ⟨rfl,rfl⟩;rw[xb.out]
    have xm:G<18446744073709551616:=by
     rw[<-xb.out];exact YbW (Nat.gcd_le_right _ (YbA xf)) t
    go_wp2_with fail;refine(IQ G _ xm).mono ?_;rintro e N ⟨v2,rfl,J,P⟩;replace J:=Af J;replace P:=Af (H.out.trans P);go_wp2;go_ret;exact⟨_,rfl,J.out,P.out⟩
   .have xi:Hid ((Aw (p%q)).length<=4398046511103):=DR (YbV (YaV p (YbA xf))) L
    have O:p%q<q:=YaV _ (YbA xf);have R:Hid (Nat.gcd q (p%q)=G):=by rw[<-xb,YcM p q,YeL q p,YcM];rfl
    replace Q:=Af Q;replace j:=Af j;replace xb:=Af xb;replace H:=Af H;replace M:=Af M;replace L:=Af L;replace xh:=Af xh;replace xg:=Af xg;replace O:=Af O;by_cases U:f<=2
    .have xc:¬d<=2:=λh=>Z ⟨U,h⟩
     have v:decide ((f:Int)<=2)=true:=by simp;omega
     have z:decide ((d:Int)<=2)=false:=by simp;omega
     replace Z:=Af Z;go_wp2_with fail;refine(Ks _ _ p q _ Q.out j.out M.out xf).mono ?_;rintro e F ⟨A3,A4,n3,W,n4,i,rfl,xd,b,V⟩;replace j:=Af (j.out.ext V);replace V:=Af (H.out.trans V);replace b:=Af b;clear Q H xd;go_wp2;go_roundg (p%q)
     case measure=>exact O.out
     case rel=>exact⟨_,_,_,_,_,_,_,_,rfl,rfl,j.out,b.out,R.out,rfl,L.out,xi.out,V.out⟩
    .have v:decide ((f:Int)<=2)=false:=by simp; omega
     replace Z:=Af Z;go_wp2_with fail;refine(Ks _ _ p q _ Q.out j.out M.out xf).mono ?_;rintro e F ⟨A3,A4,n3,W,n4,i,rfl,xd,b,V⟩;replace j:=Af (j.out.ext V);replace V:=Af (H.out.trans V);replace b:=Af b;clear Q H xd;go_wp2;go_roundg (p%q)
     case measure=>exact O.out
     case rel=>exact⟨_,_,_,_,_,_,_,_,rfl,rfl,j.out,b.out,R.out,rfl,L.out,xi.out,V.out⟩
theorem A6j(b z:Bool)(A E:Option Addr)(n c g k:Nat)(x y:Int)(w:World)(h:IsInt w (.bool b) (.slice A n c) x)(V:IsInt w (.bool z) (.slice E g k) y)(q:(Aw x.natAbs).length<=4398046511103)(m:(Aw y.natAbs).length<=4398046511103) :
  Calls prog 226 #[.agg #[.bool b,.slice A n c],.agg #[.bool z,.slice E g k]] w (JB (Nat.gcd x.natAbs y.natAbs) w):=by
 replace h:=Af h;replace V:=Af V;replace q:=Af q;replace m:=Af m;go_enter func226,ntmps226;go_wp2_with fail;refine(Ze _ _ _ _ _ (h.out.2.ext ((((Ext.refl _).alloc _).alloc _).alloc _)) (V.out.2.ext ((((Ext.refl _).alloc _).alloc _).alloc _)) q.out m.out).mono ?_;rintro e B ⟨v,rfl,C,G⟩;obtain⟨O,f,K,rfl⟩:=C.form;replace C:=Af C;replace G:=Af G;go_wp2_with fail;refine(Iq false _ _ _ C.out).mono ?_;rintro e F ⟨J,Q,I,S,rfl,M,P⟩;rw[AK,show Kb false (Nat.gcd x.natAbs y.natAbs)=((Nat.gcd x.natAbs y.natAbs:Nat):Int)from rfl]at M;replace P:=Af (G.out.trans P);replace M:=Af M;obtain⟨N,X⟩:=P.out.cells;go_wp2;refine bodyPost_ret (v:=.agg #[.bool J,.slice Q I S]) (by simp[results,Tryz.results226,go_sem,N]) rfl ⟨_,_,_,_,rfl,?_,?_⟩
 .have L:Ty F (w.heap.size+2) 109:=(Fu _ _ ZbV).ext P.out
  exact(M.out.set L ZbL _).set (L.set _ _) ZbL _
 .exact (((((Ext.refl _).alloc _).alloc _).alloc _).trans P.out |>.set ZcR _).set ZcR _
def OW(x y:Int):Int:=if y<0 then -(Nat.gcd x.natAbs y.natAbs:Int)else(Nat.gcd x.natAbs y.natAbs:Int)
theorem A7D{x y:Int}(N:y≠0):OW x y≠0:=by
 have:Nat.gcd x.natAbs y.natAbs≠0:=λh=>by have:=(Nat.gcd_eq_zero_iff.1 h).2;omega
 unfold OW;split<;>omega
theorem A0q{x y:Int}(N:y≠0):(Rat.divInt x y).num=x/OW x y/\((Rat.divInt x y).den:Int)=y/OW x y:=by
 unfold OW;by_cases h:y<0
 .rw [Yan h,<-Rat.neg_divInt_neg]
  have q:=DN (x:=-x) (y:=-y) ZbG;rw[Yer,Yer]at q;have T:((Nat.gcd x.natAbs y.natAbs:Nat):Int)∣x:=YcX.2 (YcC _ _);have w:((Nat.gcd x.natAbs y.natAbs:Nat):Int)∣y:=YcX.2 (YbK _ _);rw[q.1,q.2,Int.ediv_neg,Int.ediv_neg,Int.neg_ediv_of_dvd T,Int.neg_ediv_of_dvd w];exact⟨rfl,rfl⟩
 .rw [Yai h]
  exact DN ZbG
theorem A0o(p q:Rat):p*q=Rat.divInt (p.num*q.num) ((p.den:Int)*q.den):=by
 rw[Rat.mul_def,YdE];have:((p.den:Int)*q.den)=((p.den*q.den:Nat):Int):=by simp
 rw[this];rfl
theorem A6o(b z:Bool)(A N:Option Addr)(n c g k:Nat)(p:Rat)(w:World)(h:IsRat w (.bool b) (.slice A n c) (.bool z) (.slice N g k) p) :
  Calls prog 228 #[.agg #[.bool b,.slice A n c,.bool z,.slice N g k]] w (Aa7 (-p) w):=by
 have V:Hid (Blk ((w.alloc (.cells #[.bool b,.slice A n c,.bool z,.slice N g k] 111)).alloc (.cells #[.bool false,.slice none 0 0,.bool false,.slice none 0 0] 111)) w.heap.size 111 #[.bool b,.slice A n c,.bool z,.slice N g k]):=(Blk.new _ _ _).alloc _;have t:Hid (Blk ((w.alloc (.cells #[.bool b,.slice A n c,.bool z,.slice N g k] 111)).alloc (.cells #[.bool false,.slice none 0 0,.bool false,.slice none 0 0] 111)) (w.heap.size+1) 111 #[.bool false,.slice none 0 0,.bool false,.slice none 0 0]):=EQ _ _ ZbV;have r:Hid (Ext w ((w.alloc (.cells #[.bool b,.slice A n c,.bool z,.slice N g k] 111)).alloc (.cells #[.bool false,.slice none 0 0,.bool false,.slice none 0 0] 111))):=((Ext.refl _).alloc _).alloc _;have Z:=Af (h.ext r.out);clear h;go_enter func228,ntmps228;go_upto_region 1 with(fail)
 generalize ((w.alloc (.cells #[.bool b,.slice A n c,.bool z,.slice N g k] 111)).alloc (.cells #[.bool false,.slice none 0 0,.bool false,.slice none 0 0] 111))=wq at *;obtain⟨R,xd⟩:∃R,R=w.heap.size:=⟨_,rfl⟩;obtain⟨G4,xe⟩:∃G4,G4=w.heap.size+1:=⟨_,rfl⟩;rw[<-xe]at t ⊢;rw[<-xd]at V ⊢;have U:w.heap.size<=G4:=by omega
 clear xd xe
 refine wp_region_v ZbK [[], [(3, 0)], [(4, 1)], [], [(6, 3)], [(5, 2), (7, 4)]] [[], [0], [0, 1], [], [3], [0, 1, 2, 3, 4]]
  [λv _=>v=.pointer (some ⟨R,0,none⟩),λv _=>v=.agg #[.bool b,.slice A n c],λv M=>∃b A n c,v=.agg #[.bool b,.slice A n c]/\IsInt M (.bool b) (.slice A n c) (-p.num),λv _=>v=.pointer (some ⟨R,2,none⟩),λv _=>v=.agg #[.bool z,.slice N g k],λv M=>∃b A n c z N g k,v=.agg #[.bool b,.slice A n c,.bool z,.slice N g k]/\IsRat M (.bool b) (.slice A n c) (.bool z) (.slice N g k) (-p)]
  rfl ZbK ZbK ?stab ?steps ?fin
 case stab=>exact .cons (Stab.eq _) (.cons (Stab.eq _) (.cons (λ_ _ _ a ⟨b,A,n,c,q,B⟩=>⟨b,A,n,c,q,B.ext a⟩) (.cons (Stab.eq _) (.cons (Stab.eq _) (.cons (λ_ _ _ a ⟨b,A,n,c,z,N,g,k,q,B⟩=>⟨b,A,n,c,z,N,g,k,q,B.ext a⟩) .nil)))))
 case steps=>
  refine .cons ?s0 (.cons ?s1 (.cons ?s2 (.cons ?s3 (.cons ?s4 (.cons ?s5 .nil)))))
  case s0=>
   intro M i Q C l F G;exact Zid
  case s1=>
   intro M i Q C l F G;have J:i (.tmp 3)=.pointer (some ⟨R,0,none⟩):=C.1 _ rfl;have X:M.cell? ⟨R,0,none⟩=some (.bool b):=Q.cellv ((V.out.cell 0));have K:M.cell? ⟨R,1,none⟩=some (.slice A n c):=Q.cellv ((V.out.cell 1));exact AB (by simp[execOp,J,X,K,go_sem]) rfl
  case s2=>
   intro M i Q C l F G;have Y:i (.tmp 4)=.agg #[.bool b,.slice A n c]:=C.1 _ rfl;refine Cz (by simp[execOp,resolve,invoke,G,Y,go_sem]) (A6h b A n c _ _ (Z.out.1.ext ((Ext.refl _).drew.trans Q))) ?_;rintro e I ⟨j,d,f,y,rfl,xa,O⟩;exact⟨_,rfl,O,j,d,f,y,rfl,xa⟩
  case s3=>
   intro M i Q C l F G;exact Zid
  case s4=>
   intro M i Q C l F G;have W:i (.tmp 6)=.pointer (some ⟨R,2,none⟩):=C.1 _ rfl;have X:M.cell? ⟨R,2,none⟩=some (.bool z):=Q.cellv ((V.out.cell 2));have K:M.cell? ⟨R,3,none⟩=some (.slice N g k):=Q.cellv ((V.out.cell 3));exact AB (by simp[execOp,W,X,K,go_sem]) rfl
  case s5=>
   intro M i Q C l F G;have f5:=C.1 _ rfl;have m:i (.tmp 7)=.agg #[.bool z,.slice N g k]:=C.2.1 _ rfl;obtain⟨b6,A6,n6,s,S,xf⟩:=f5;exact AB (v:=.agg #[.bool b6,.slice A6 n6 s,.bool z,.slice N g k]) (by simp[execOp,S,m,go_sem]) ⟨b6,A6,n6,s,_,_,_,_,rfl,xf,Z.out.2.ext ((Ext.refl _).drew.trans Q)⟩
 case fin=>
  intro gf M Q hF;obtain⟨b8,A8,n8,xb,b9,A9,n9,c9,u,xc⟩:=hF 5 _ rfl;replace Q:=Af ((Ext.refl _).drew.trans Q);have T:=t.out.ext Q.out;have P:M.cell? ⟨G4,0,none⟩=some (.bool false):=T.cell 0;have o:M.cell? ⟨G4,1,none⟩=some (.slice none 0 0):=T.cell 1;have x:M.cell? ⟨G4,2,none⟩=some (.bool false):=T.cell 2;have H:M.cell? ⟨G4,3,none⟩=some (.slice none 0 0):=T.cell 3;have y0:=T.frozen 0;have y1:=T.frozen 1;have y2:=T.frozen 2;have y3:=T.frozen 3;have L:Ty M G4 111:=T.ty;simp only[Yay,Ybk,Nat.reduceAdd,Ybf,YaP,Ybe,YbR,Fw,Act.put,YaW,Ybw,YbD,u];replace xc:=Af xc;replace T:=Af T;clear hF u;go_wp2;refine bodyPost_ret (v:=.agg #[.bool b8,.slice A8 n8 xb,.bool b9,.slice A9 n9 c9]) (by simp[results,Tryz.results228,go_sem,P,o,x,H]) rfl ⟨_,_,_,_,_,_,_,_,rfl,?_,?_⟩
  .exact xc.out.put4 (b:=G4) L ZbL (.bool b8) (.slice A8 n8 xb) (.bool b9) (.slice A9 n9 c9)
  .exact (r.out.trans Q.out).put4 (b:=G4) ZbG (.bool b8) (.slice A8 n8 xb) (.bool b9) (.slice A9 n9 c9)
