/- Part 8. No condition. -/
import Derived.Laws.CopyRow
import Derived.Test.YtcikkglcoeedlaaGreatDm5
import Derived.Test.YtcikkglcoeedlaaGreatDm7
set_option linter.all false
set_option maxRecDepth 100000
set_option maxHeartbeats 4000000
namespace Go.Proofs.YtcikkglcoeedlaaGreat
open _root_.Go.Proofs.Tryz
open Go.RowKit
variable{ua:Array Oper}{l g vo vY:List Nat}{n b T m c:Nat}{z:Value}{w p uG:World}
theorem Words.old{v:Value}(h:Words w v l)(E:∀k,k<w.heap.size->p.heap[k]? = w.heap[k]?):Words p v l:=by
 obtain⟨A,c,r,G,I,a,C⟩:=h;refine⟨A,c,r,G,I,a,λF=>?_⟩;obtain⟨b,o,f,J,q,B,K⟩:=C F;exact⟨b,o,f,J,q,(E b (Bv B)).trans B,K⟩
theorem RB{P:Program}{rest:List Oper}{o:Oper}{a:Act}{Q:Exit->Act->World->Prop}(T:o.guard=none)(s x:Operand)(t:TypeId)
  (A:o.op=.call { callee:=.builtin .copy,args:=#[s,x],argTypes:=#[t,t] }) (v u:Value) (q:a.eval s=v) (C:a.eval x=u)
  (m:(Builtin.copy_ #[t,t] o.type #[v,u]).run P w=.ok z p) (h:wpList P ua Q rest (a.put o.dst z) p):wpList P ua Q (o::rest) a w:=by
 refine wpList_plain T λK g=>?_;unfold Oper.wp execOp;simp only[A,resolve,invoke,builtin,Sem.run_bind,Sem.run_pure,Result.andThen_ok,Yco,Ybb,Ycb,q,C,m];exact g _ _ h
theorem RX{A:Option Addr}{c:Nat}(R:Blk w n 335 (wv (List.replicate b 0)))(h:Words w (.slice A l.length c) l)(F:0<l.length)(I:l.length<=b) :
  ∃N,(Builtin.copy_ #[107,107] 3 #[.slice (some ⟨n,0,none⟩) b b,.slice A l.length c]).run prog w=.ok (goInt l.length) N/\Blk N n 335 (wv (l++List.replicate (b-l.length) 0))/\Only n w N:=by
 obtain⟨O,G,r,_,_,C⟩:=h.open_;cases r;obtain⟨q,o,rfl,E,L⟩:=C F;have J:(wv l).toList.length=l.length:=by simp[wv]
 have Y := run_copy_row prog w 107 107 3 335 n 0 b b ⟨q, o, none⟩ l.length c (wv (List.replicate b 0)) 335 (wv l).toList underlying107 ZbG R (by rw [J]; exact (Yby I).symm)
  (λj v X=>by
   have M:j<l.length:=by have:=(Yae.1 X).1;omega
   rw[A1b,L j M];rw[Ycx,Ec M]at X;exact X) (by rw[J,A7H];simp;omega) (λv r=>by simp[wv]at r;obtain⟨x,_,rfl⟩:=r;rfl)
 rw[J]at Y;refine⟨_,Y,?_,⟨rfl,rfl,rfl,by simp[World.setRow],λk _ B=>setRow_other w n k _ B⟩⟩
 have e:((wv (List.replicate b 0)).toList.take 0++(wv l).toList++(wv (List.replicate b 0)).toList.drop (0+l.length)).toArray=wv (l++List.replicate (b-l.length) 0):=by
  simp[wv]
 rw[e];exact setRow_heap w n _ _ 335 _ R
def DvRel(w wr:World)(R p:Nat)(e v U Q:List Nat)(m n k:Nat):Prop:=
 U.length=m+1/\BK U/\Blk wr R 335 (wv U)/\Q.length=m-n+1/\BK Q/\Blk wr p 335 (wv Q) /\
 val (e.drop k)=val (Q.drop k)*val v+val (U.drop k)/\U.take k=e.take k/\val (U.drop k)<val v/\Below R w wr
theorem DvRel.window{m q k:Nat}(h:DvRel w p n b l g vo vY m q (k+1))(C:k+q<=m)(U:g.length=q)(f:BK g) :
  ∃x post,x.length=q+1/\BK x/\Win p n (vo.take k) x post/\val x<BB*val g/\val post=0/\vo=vo.take k++x++post/\val x=vo.getD k 0+BB*val (vo.drop (k+1))/\(vo.take k).length=k:=by
 obtain⟨A,B,K,Q,E,F,G,S,X,v⟩:=h
 have N:vo=vo.take k++(vo.drop k).take (q+1)++vo.drop (k+(q+1)):=by
  exact Zkb
 have O:val g<BB^q:=by
  have:=Ei f;rwa [U]at this
 have W:=Ed (l:=vo) (k:=k) ZbC;have o:=IK vo k (q+1) ZbC;have V:=Be B k
 have M:val (vo.drop k)<BB*val g:=by
  have:BB*(val (vo.drop (k+1))+1)<=BB*val g:=Yas _ X;rw[YaG]at this;omega
 have L:val (vo.drop (k+(q+1)))=0:=by
  rcases YaB (val (vo.drop (k+(q+1))))with h | h
  .exact h
  .exfalso
   have I:BB^(q+1)*1<=BB^(q+1)*val (vo.drop (k+(q+1))):=Yas _ h;have J:BB*val g<=BB*BB^q:=Yas _ (Yca O);have y:BB^(q+1)=BB*BB^q:=by rw[Ybt,YaM]
   omega
 rw[L,Ycz,Ybf]at o;refine⟨(vo.drop k).take (q+1),vo.drop (k+(q+1)),by simp;omega,Dj (RS B k) _,?_,by rw[<-o];exact M,L,N,by rw[<-o];exact W,by simp;omega⟩;unfold Win;rw[<-N];exact K
theorem DvRel.step{g v U Q x f post:List Nat}{m A k q:Nat}(h:DvRel w p n b g v U Q m A (k+1))(E:k+A<=m)(t:g.length=m+1)(F:x.length=A+1)(z:U=U.take k++x++post)(j:(U.take k).length=k)(l:val post=0)(H:val x=U.getD k 0+BB*val (U.drop (k+1)))
  (s:f.length=A+1) (u:BK f) (Y:Win uG n (U.take k) f post) (P:Only n p uG) (S:q<BB) (Iw:val f+q*val v=val x) (O:val f<val v) (R:n<b) {e:Int} (I:e=(q:Nat)) :
  DvRel w (uG.setCell ⟨b,k,none⟩ (.int .u32 e)) n b g v (U.take k++f++post) (Q.set k q) m A k:=by
 obtain⟨B,C,K,G,N,V,X,Z,a,c⟩:=h;have sU:BK (U.take k):=Dj C k;have sp:BK post:=λy M=>C y (by rw[z];simp[M]);have r:k<U.length:=by omega
 have T:Blk uG b 335 (wv Q):=(P.block b (Blk.lt V) ZbC).trans V
 have d:(U.take k++f++post).drop k=f++post:=by
  exact ZhK
 have L:(U.take k++f++post).take k=U.take k:=by
  exact ZhG
 have xb:g.take k=U.take k:=by
  have:(U.take (k+1)).take k=(g.take (k+1)).take k:=by rw[Z]
  exact Zig
 have xa:g.getD k 0=U.getD k 0:=by
  have:(U.take (k+1)).getD k 0=(g.take (k+1)).getD k 0:=by rw[Z]
  exact ZhH
 refine⟨?_,?_,?_,by simpa using G,Dq N k S,?_,?_,?_,?_,?_⟩
 .have W:(U.take k++x++post).length=m+1:=by rw [<-z];exact B
  simp only[Yac]at W ⊢;omega
 .intro y M
  rcases YbW.1 M with M | M
  .rcases YbW.1 M with M | M
   .exact sU y M
   .exact u y M
  .exact sp y M
 .exact Blk.far Y ZbV _
 .rw [I,<-JD];exact T.set k _
 .rw [d, HV l, Ed (l:=g) ZbC, Ed (l:=Q.set k q) (by rw [YbL]; omega), LM, Cq ZbC, X, xa]
  have:BB*(val (Q.drop (k+1))*val v+val (U.drop (k+1)))=BB*val (Q.drop (k+1))*val v+BB*val (U.drop (k+1)):=by rw[YaG,Yba]
  rw[this,YbG];omega
 .rw [L,xb]
 .rw [d,HV l];exact O
 .have o:Below n w uG:=⟨P.os.trans c.os, P.tape.trans c.tape, P.output.trans c.output, Yau c.size P.size, λi J=>(P.block i (by have:=Blk.lt K; omega) ZbC).trans (c.block i J)⟩
  exact Below.setCell o ZbV _
theorem A0s(I:(Aw n).length=b+1)(L:(Aw n).getD b 0=T)(c:0<T)(O:m=BB/(T+1)) :
  0<m/\m<BB/\(Aw (n*m)).length=b+1/\2147483648<=(Aw (n*m)).getD b 0:=by
 have S:T<BB:=by rw[<-L];exact Be (BG n) b
 have W:(T+1)*m<=BB:=by rw[O];exact Nat.mul_div_le BB (T+1)
 have y:0<m:=by rw[O];exact YeT ZbC ZbC
 have V:m<BB:=by
  have:2*m<=(T+1)*m:=YaC _ ZbC;have:=CS;omega
 have X:2147483648<=T*m:=by
  have B:BB<(T+1)*(m+1):=by rw[O];exact Yel BB ZbC
  rw[YbG,YaG,Ybz,YcF]at B;rw[BF]at *;obtain⟨a,rfl⟩:∃a,T=a+1:=⟨T-1,by omega⟩;obtain⟨q,E⟩:∃q,m=q+1:=⟨m-1,by omega⟩;have e:(a+1)*m=a*q+a+q+1:=by rw[E,YbG,YaG];omega
  omega
 have J:=Ej I;rw[AK,L]at J
 have w:val ((Aw n).take b)<BB^b:=by
  have:=Ei (Dj (BG n) b);exact ZjZ
 have M:n*m<BB^(b+1):=by
  have K:n+1<=BB^b*(T+1):=Zhy
  have Q:(n+1)*m<=BB^b*(T+1)*m:=YaC _ K;have G:BB^b*(T+1)*m<=BB^b*BB:=by rw[Yba];exact Yas _ W
  rw[Ybt];rw[YbG]at Q;omega
 have N:BB^b*2147483648<=n*m:=by
  have K:BB^b*T<=n:=by omega
  have Q:BB^b*T*m<=n*m:=YaC _ K;have G:BB^b*2147483648<=BB^b*(T*m):=Yas _ X;rw[Yba]at Q;omega
 generalize n*m=z at *
 have s:(Aw z).length=b+1:=by
  have A:=Ei (BG z);rw[AK]at A
  have B:b<(Aw z).length:=by
   rcases YaI b (Aw z).length with h | h
   .exact h
   .have K:BB^(Aw z).length<=BB^b:=Ybo CS h
    have Q:BB^b*1<=BB^b*2147483648:=Yas _ ZbC;omega
  rcases YaI (b+1) (Aw z).length with h | h
  .exfalso
   obtain⟨k,C⟩:∃k,(Aw z).length=k+1:=⟨(Aw z).length-1,by omega⟩;have e:=Ej C;rw[AK]at e;have K:=DQ C;have Q:BB^k*1<=BB^k*(Aw z).getD k 0:=Yas _ K;have F:BB^(b+1)<=BB^k:=Ybo CS ZbC;omega
  .omega
 refine⟨y,V,s,?_⟩;have e:=Ej s;rw[AK]at e
 have g:val ((Aw z).take b)<BB^b:=by
  have:=Ei (Dj (BG z) b);exact ZjZ
 have x:BB^b*2147483648<BB^b*((Aw z).getD b 0+1):=Zhy
 have:=Ybw x;omega
theorem A3S{a b D q r:Nat}(C:0<D)(E:0<b)(h:a*D=q*(b*D)+r)(Y:r<b*D):a/b=q/\r/D=a%b:=by
 have A:(a*D)/(b*D)=q:=by
  rw[h,YaM q,YcU (Yda E C),YbK Y,Ybf]
 have B:(a*D)%(b*D)=r:=by
  exact Zkc
 rw[Nat.mul_div_mul_right _ _ C]at A;rw[Nat.mul_mod_mul_right]at B;refine⟨A,?_⟩;rw[<-B,Nat.mul_div_cancel _ C]
theorem VM(C:(Aw n).length=T)(M:(Aw b).length=m+1)(i:m+1<=T)(F:l.length=T+1)(E:val l=n*c)(O:0<c):val (l.drop (T-(m+1)+1))<b*c:=by
 have q:n<BB^T:=by have:=Ei (BG n);rwa [AK,C]at this
 have A:BB^m<=b:=by
  have e:=Ej M;rw[AK]at e;have:=DQ M;have K:BB^m*1<=BB^m*(Aw b).getD m 0:=Yas _ this;omega
 have W:T-(m+1)+1=T-m:=by omega
 rw[W]
 have K:val l=val (l.take (T-m))+BB^(T-m)*val (l.drop (T-m)):=by
  have:=IL (l.take (T-m)) (l.drop (T-m));exact ZhS
 have Q:n*c<BB^T*c:=Yen q O
 have k:BB^T*c=BB^(T-m)*(BB^m*c):=by
  rw[<-Yba,<-YcL,show T-m+m=T by omega]
 have B:BB^(T-m)*val (l.drop (T-m))<BB^(T-m)*(BB^m*c):=by omega
 have g:=Ybw B;have x:BB^m*c<=b*c:=YaC _ A;omega
theorem A0t(C:(Aw n).length=b)(O:T<BB):(Aw (n*T)).length<=b+1:=by
 have q:n<BB^b:=by have:=Ei (BG n);rwa [AK,C]at this
 have A:n*T<BB^(b+1):=by
  rw[Ybt];rcases YaB T with h | h
  .rw [h,Ycz];exact Yda (Yem CS) CS
  .exact Yaq (Yen q h) (Yas _ (Yca O))
 generalize n*T=z at *;rcases YaI (b+1) (Aw z).length with h | h
 .exfalso
  obtain⟨k,B⟩:∃k,(Aw z).length=k+1:=⟨(Aw z).length-1,by omega⟩;have e:=Ej B;rw[AK]at e;have K:=DQ B;have Q:BB^k*1<=BB^k*(Aw z).getD k 0:=Yas _ K;have E:BB^(b+1)<=BB^k:=Ybo CS ZbC;omega
 .exact h
theorem A35(n:Nat):val (List.replicate n 0)=0:=by
 induction n with
 |zero=>rfl
 |succ n u=>simp[Yef,val,u]
theorem Words.cellAt{b o n c:Nat}(h:Words w (.slice (some ⟨b,o,none⟩) n c) l){i:Nat}(J:i<l.length):w.cell? ⟨b,o+i,none⟩=some (.int .u32 (l.getD i 0:Nat)):=by
 obtain⟨A,q,r,_,_,C⟩:=h.open_;cases r;obtain⟨H,x,e,_,L⟩:=C ZbC;cases e;exact L i J
theorem A4d(b M e n T E P:Nat)(pre post u v:List Nat)(w:World)(L:pre.length=P)(B:Win w b pre u post)(Q:u.length=n+1)(r:v.length=n)(A:2<=n)(g:n<=4398046511104)(q:BK u)(f:BK v)
  (l:∀i,i<n->w.cell? ⟨M,e+i,none⟩=some (.int .u32 (v.getD i 0:Nat))) (C:n+1<=T) (t:n<=E) (W:2147483648<=v.getD (n-1) 0) (O:val u<BB*val v) :
  Calls prog 311 #[.slice (some ⟨b,P,none⟩) (n+1) T,.slice (some ⟨M,e,none⟩) n E] w (Zz w u v):=by
 subst L;exact A1g b M e n T E pre post u v w B Q r A g q f l C t W O
theorem ZA(s a:Value)(x y:Nat)(w:World)(t:Words w s (Aw x))(E:Words w a (Aw y))(O:x<y) :
  Calls prog 282 #[s,a] w (LV x y w):=by
 obtain⟨A,n,c,rfl⟩:=t.form;replace t:=Af t;replace E:=Af E;have C:FE x y<0:=by unfold FE;rw[Yao O];omega
 replace O:=Af O;go_enter func282,ntmps282;go_wp2_with fail;refine(HP _ _ _ _ _ t.out E.out).mono ?_;rintro e X ⟨rfl,q⟩;replace t:=Af (t.out.ext q);replace q:=Af q;go_wp2;go_ret2;refine⟨_,_,_,_,_,_,rfl,?_,?_,q.out⟩
 .exact Zje
 .rw [YaV O.out];exact t.out
theorem Xb(s a:Value)(x y:Nat)(w:World)(A:Words w s (Aw x))(E:Words w a (Aw y))(g:(Aw x).length<=4398046511104)(S:y<=x)(q:(Aw y).length=1) :
  Calls prog 282 #[s,a] w (LV x y w):=by
 have i:¬FE x y<0:=by unfold FE;rw[Yaj ZbC];split<;>omega
 obtain⟨t,L⟩:∃t,Aw y=[t]:=by
  match d:Aw y,q with
  |[t],_=>exact⟨t,rfl⟩
 have k:Hid (y=t):=by
  show y=t;rw[<-AK y,L];simp[val]
 have f:t<4294967296:=by
  have:=BG y t (by rw[L];simp);rwa [BF]at this
 have U:0<t:=by
  have:=DQ (y:=y) (n:=0) q;rw[L]at this;exact ZjY
 replace g:=Af g;replace S:=Af S;clear q;replace A:=Af A;replace E:=Af E;replace L:=Af L;go_enter func282,ntmps282;go_wp2_with fail;refine(HP _ _ _ _ _ A.out E.out).mono ?_;rintro e X ⟨rfl,C⟩;have I:=Af (A.out.ext C);have j:=E.out.ext C;replace C:=Af C;rw[L.out]at j;obtain⟨V,F,rfl,M,n,O⟩:=j.open_;obtain⟨B,N,rfl,r,W⟩:=O ZbR;replace W:X.cell? ⟨B,N,none⟩=some (.int .u32 (t:Nat)):=W 0 ZbR;clear O j;go_wp2_with fail;refine(Oo _ _ t _ I.out g.out U f).mono ?_;rintro e Z ⟨m,rfl,T,J⟩;obtain⟨v,p,G,rfl⟩:=T.form;replace T:=Af T;replace J:=Af (C.out.trans J);have K:val (Aw x)%t<18446744073709551616:=by have:=YaR (val (Aw x)) U;omega
 replace K:=Af K;clear W;go_wp2_with fail;refine(Jc _ _ K.out).mono ?_;rintro e b ⟨P,rfl,c,Q⟩;obtain⟨h,l,Y,rfl⟩:=c.form;replace T:=Af (T.out.ext Q);replace c:=Af c;replace Q:=Af (J.out.trans Q);go_wp2;go_ret2;refine⟨_,_,_,_,_,_,rfl,?_,?_,Q.out⟩
 .have:=T.out;rw[AK]at this;rw[k.out];exact this
 .have:=c.out;rw[AK]at this;rw[k.out];exact this
set_option maxRecDepth 1000000 in
theorem Xc(va vb:Value)(x y:Nat)(w:World)(S:Words w va (Aw x))(E:Words w vb (Aw y))(o:(Aw x).length<=4398046511103)(xj:y<=x)(B:2<=(Aw y).length) :
  Calls prog 282 #[va,vb] w (LV x y w):=by
 have yo:¬FE x y<0:=by unfold FE;rw[Yaj ZbC];split<;>omega
 have R:=BP xj;obtain⟨n,j⟩:∃n,(Aw y).length=n+1:=⟨(Aw y).length-1,by omega⟩;obtain⟨m,xb⟩:∃m,(Aw x).length=m:=⟨_,rfl⟩;have xO:=DQ j;have xP:=Be (BG y) n;generalize L:(Aw y).getD n 0=t at *;unfold BB at xP;obtain⟨D,hD⟩:∃D,D=BB/(t+1):=⟨_,rfl⟩;obtain⟨yg,yl,xo,xA⟩:=A0s j L xO hD;have yC:(4294967296:Int)/((t:Int)+1)=(D:Int):=by rw[hD,BF];rfl
 have yk:=A0t xb yl
 have yb:0<y:=by
  rcases YaB y with h | h
  .rw [h,BJ]at j;simp at j
  .exact h
 have yu:0<(Aw (x*D)).length:=by
  rcases YaB (Aw (x*D)).length with h | h
  .have:=Br.1 h
   have:=Yda (show 0<x by omega) yg;omega
  .exact h
 rw[xb]at o R;rw[j]at R B;have xt:1<=n:=by omega
 clear B;unfold BB at yl
 have yG:Hid ((Aw D).length<=4398046511104):=by
  have A:=Ei (BG D);rw[AK]at A;show _<=_;rcases YaI 2 (Aw D).length with h | h
  .exfalso
   obtain⟨k,C⟩:∃k,(Aw D).length=k+1:=⟨(Aw D).length-1,by omega⟩;have e:=Ej C;rw[AK]at e;have K:=DQ C;have F:BB^k*1<=BB^k*(Aw D).getD k 0:=Yas _ K;have M:BB<=BB^k:=by have:=Ybo CS (show 1<=k by omega);rwa [Nat.pow_one]at this
   have V:=BF;omega
  .omega
 replace L:=Af L;replace j:=Af j;replace xb:=Af xb;replace xj:=Af xj;replace hD:=Af hD;replace xo:=Af xo;replace xA:=Af xA;replace yk:=Af yk;replace yu:=Af yu;replace yb:=Af yb;have yJ:=λW=>CB (m+1) ZbC .i64 .i64 W;have xw:=λW=>CB (m-(n+1)+1) ZbC .i64 .i64 W;have xH:((m-(n+1)+1:Nat):Int)=(m:Int)-((n:Int)+1)+1:=by omega
 rw[xH]at xw;simp only[Ycw,Yeh]at yJ;clear xH;replace S:=Af S;replace E:=Af E;go_enter func282,ntmps282;go_wp2_with fail;refine(HP _ _ _ _ _ S.out E.out).mono ?_;rintro e d ⟨rfl,P⟩;have u:=S.out.ext P;have xa:=E.out.ext P;replace P:=Af P;clear S E;obtain⟨A1,b,rfl,xl,yT,xp⟩:=u.open_;clear xp;obtain⟨A2,r,rfl,xe,yj,xr⟩:=xa.open_;obtain⟨b2,o2,rfl,xg,xx⟩:=xr (by rw[j.out];omega);replace xx:d.cell? ⟨b2,o2+n,none⟩=some (.int .u32 (t:Nat)):=by have:=xx n (by rw[j.out];omega);exact ZiN
 clear xr;rw[j.out]at xe xa ⊢;rw[xb.out]at xl u ⊢;replace u:=Af u;replace xa:=Af xa;have yU:(((n+1:Nat):Int)==1)=false:=ZiI
 go_wp2_with fail;refine(Jc D _ ZbC).mono ?_;rintro e H ⟨vd,rfl,xK,T⟩;replace u:=Af (u.out.ext T);replace xa:=Af (xa.out.ext T);replace T:=Af (P.out.trans T);replace xK:=Af xK;clear P xx;go_wp2_with fail;refine(KP _ _ _ _ _ xa.out xK.out (by rw[j.out];omega) yG.out).mono ?_;rintro e w3 ⟨vv,rfl,yi,xc⟩;rw[AK,AK]at yi;replace u:=Af (u.out.ext xc);replace xc:=Af (T.out.trans xc);clear T xK xa;obtain⟨Av,cv,rfl,xC,ze,xI⟩:=yi.open_;obtain⟨bv,ov,rfl,ye,zc⟩:=xI (by rw[xo.out];omega);rw[xo.out]at xC yi ⊢;replace yi:=Af yi;clear xI;have sv:=Af (BG (y*D));have xV:Hid (val (Aw (y*D))=y*D):=AK _;generalize Aw (y*D)=v at *;have yf:Hid (Blk (w3.alloc (.cells (wv (List.replicate (m+1) 0)) 335)) w3.heap.size 335 (wv (List.replicate (m+1) 0))):=Blk.new _ _ _;have xD:Hid (Ext w3 (w3.alloc (.cells (wv (List.replicate (m+1) 0)) 335))):=(Ext.refl _).alloc _;go_wp2_with fail;generalize (w3.alloc (.cells (wv (List.replicate (m+1) 0)) 335))=w4 at *;refine(Jc D _ ZbC).mono ?_;rintro e w5 ⟨vd,rfl,xK,xs⟩;replace u:=Af (u.out.ext (xD.out.trans xs));replace yf:=Af (yf.out.ext xs);replace xD:=Af (xD.out.trans xs);replace xK:=Af xK;clear xs;go_wp2_with fail;refine(KP _ _ _ _ _ u.out xK.out (by rw[xb.out];omega) yG.out).mono ?_;rintro e w6 ⟨vu,rfl,xL,yy⟩;rw[AK,AK]at xL;replace yf:=Af (yf.out.ext yy);replace xD:=Af (xD.out.trans yy);clear yy xK u;obtain⟨Au,cu,rfl,xT,xU,_⟩:=xL.open_;have yP:=BG (x*D);have yN:val (Aw (x*D))=x*D:=AK _;generalize Aw (x*D)=u0 at *;obtain⟨w7,ys,xz,yh⟩:=RX yf.out xL yu.out yk.out;obtain⟨ul,yq⟩:∃ul,ul=u0++List.replicate (m+1-u0.length) 0:=⟨_,rfl⟩;have yt:Hid (ul.length=m+1):=by have:=yk.out;rw[yq,Yac,YdQ];show _=_;omega
 have yr:Hid (BK ul):=λz O=>by
  rw[yq]at O;rcases YbW.1 O with h | h
  .exact yP z h
  .exact Cv _ z h
 have yO:Hid (val ul=x*D):=by rw[yq,HV (A35 _),yN];rfl
 rw[<-yq]at xz;have yn:Hid (Below w3.heap.size w3 w7):=⟨yh.os.trans xD.out.os,yh.tape.trans xD.out.tape,yh.output.trans xD.out.output,Yau xD.out.size yh.size,λi J=>(yh.block i (Yaq J xD.out.size) ZbC).trans (xD.out.block J)⟩;have zf:=Af yk.out;replace ys:=Af ys;replace xz:=Af xz;clear yh yf xD xL yP yN yu yk yq;have zd:=xc.out.size;generalize xJ:w3.heap.size=gu at *;replace xJ:=Af xJ;go_upto_region 11 with(refine RB rfl _ _ _ rfl _ _ rfl rfl ys.out ?_)
 clear ys;have yQ:Hid (Ext w3 w7):=by rw[<-xJ.out]at yn;exact yn.out
 have yF:Hid (Blk (w7.alloc (.cells (wv (List.replicate (m-(n+1)+1) 0)) 335)) gu 335 (wv ul)):=xz.out.alloc _;have yE:Hid (Blk (w7.alloc (.cells (wv (List.replicate (m-(n+1)+1) 0)) 335)) w7.heap.size 335 (wv (List.replicate (m-(n+1)+1) 0))):=Blk.new _ _ _;have yH:Hid (Below gu w3 (w7.alloc (.cells (wv (List.replicate (m-(n+1)+1) 0)) 335))):=Below.alloc yn.out (by have:=yn.out.size;have:=xJ.out;omega) _;have xN:gu<w7.heap.size:=Blk.lt xz.out;have yK:=Af (VM xb.out j.out R yt.out yO.out yg);go_upto_region 13 with(fail)
 generalize (w7.alloc (.cells (wv (List.replicate (m-(n+1)+1) 0)) 335))=w8 at *;generalize w7.heap.size=gq at *;clear yn xz xw yJ yQ;go_loopw [13] (λi wr=>∃(k:Nat) (U Q:List Nat),k<=m-(n+1)+1/\i=.int .i64 ((k:Int)-1)/\Hid (DvRel w3 wr gu gq ul v U Q m (n+1) k)) (λi _=>(intOf i+1).toNat)
 case atStart=>
  refine⟨m-(n+1)+1,ul,List.replicate (m-(n+1)+1) 0,Yai _,by congr 1;omega,yt.out,yr.out,yF.out,by simp,Cv _,yE.out,?_,rfl,?_,yH.out⟩
  .exact ZaC
  .rw [xV.out];exact yK.out
 case round=>
  obtain⟨k,U,Q,C,rfl,Y⟩:=hrel;clear yF yE yH yK;by_cases xk:k=0
  .subst xk
   have xS:Hid (Words wr (.slice (some ⟨gq,0,none⟩) (m-(n+1)+1) (m-(n+1)+1)) Q):=by
    have:=CJ (c:=m-(n+1)+1) Y.out.2.2.2.2.2.1 Y.out.2.2.2.2.1 ZeR ZbC;rw[Y.out.2.2.2.1]at this;exact this
   have xL:Hid (Words wr (.slice (some ⟨gu,0,none⟩) (m+1) (m+1)) U):=by
    have:=CJ (c:=m+1) Y.out.2.2.1 Y.out.2.1 ZeG ZbC;exact Zjx
   have yS:Hid ((Aw (val U)).length<=4398046511104):=by
    have A:=Io U;rw[Bn Y.out.2.1,Y.out.1]at A;show _<=_;omega
   have xd:Hid (x/y=val Q/\val U/D=x%y):=by
    have A:=Y.out.2.2.2.2.2.2.1;have B:=Y.out.2.2.2.2.2.2.2.2.1;simp only[YaW]at A B;rw[yO.out,xV.out]at A;rw[xV.out]at B;exact A3S yg yb.out A B
   have xv:Hid (Ext w wr):=xc.out.trans (by have:=Y.out.2.2.2.2.2.2.2.2.2;rw[<-xJ.out]at this;exact this);go_wp2_with fail;refine(Gd _ _ _ xL.out).mono ?_;rintro e w9 ⟨v9,rfl,xR,yc⟩;rw[Bn Y.out.2.1]at xR;replace xS:=Af (xS.out.ext yc);replace xv:=Af (xv.out.trans yc);replace xR:=Af xR;clear yc xL;go_wp2_with fail;refine(Oo _ _ D _ xR.out yS.out yg yl).mono ?_;rintro e yv ⟨v10,rfl,xB,yw⟩;rw[AK,xd.out.2]at xB;obtain⟨yW,zg,yY,rfl⟩:=xB.form;replace xS:=Af (xS.out.ext yw);replace xv:=Af (xv.out.trans yw);replace xB:=Af xB;clear yw xR;go_wp2_with fail;refine(Gd _ _ _ xS.out).mono ?_;rintro e yD ⟨v11,rfl,xQ,yx⟩;rw[Bn Y.out.2.2.2.2.1,<-xd.out.1]at xQ;obtain⟨yX,zh,yZ,rfl⟩:=xQ.form;replace xB:=Af (xB.out.ext yx);replace xv:=Af (xv.out.trans yx);replace xQ:=Af xQ;clear yx xS;go_wp2;go_ret2;exact⟨_,_,_,_,_,_,rfl,xQ.out,xB.out,xv.out⟩
  .obtain ⟨k, rfl⟩:∃q, k=q+1:=⟨k-1, by omega⟩
   have xh:((k+1:Nat):Int)-1=k:=by omega
   rw[xh];clear xh;obtain⟨X,post,xp,xr,xW,xX,xY,xZ,ya,xE⟩:=Y.out.window ZbC xo.out sv.out;replace xp:=Af xp;replace xr:=Af xr;replace xW:=Af xW;replace xX:=Af xX;replace xY:=Af xY;replace xZ:=Af xZ;replace ya:=Af ya;replace xE:=Af xE
   have xG:Hid (∀wz,Only gu wr wz->Words wz (.slice (some ⟨bv,ov,none⟩) (n+1) cv) v):=Af λwz hO=>yi.out.old λi J=>by
    have yR:i<gu:=by rw[<-xJ.out];exact J
    exact(hO.block i (by have:=Blk.lt Y.out.2.2.1;omega) ZbC).trans (Y.out.2.2.2.2.2.2.2.2.2.block i yR)
   have xu:Hid (∀i,i<n+1->wr.cell? ⟨bv,ov+i,none⟩=some (.int .u32 (v.getD i 0:Nat))):=Af λi J=>(xG.out wr (Only.refl _ _)).cellAt (by rw[xo.out];exact J);go_wp2_with fail;rw[show k+(n+1)+1-k=n+1+1 by omega];refine(A4d gu bv ov (n+1) _ _ k (U.take k) post X v wr xE.out xW.out xp.out xo.out ZbC ZbC xr.out sv.out xu.out ZbC xC xA.out xX.out).mono ?_;rintro e w9 ⟨q,rfl,N,yA,yB,yc⟩;have xq:q<4294967296:=by rwa [BF]at N
   have yz:Hid (Only gu wr w9):=(Only.refl _ _).ext yc;have xR:=Af (xW.out.ext yc);replace yA:=Af yA;replace yB:=Af yB;replace N:=Af N;clear xu yc;go_wp2_with fail;refine(Zw gu (n+1+1) _ _ (U.take k) post X v q k w9 xE.out xR.out xp.out (by rw[xo.out];omega) ZbC xr.out sv.out (λwz hO=>xG.out wz (yz.out.trans hO)) ZbC N.out).mono ?_;rintro e yv ⟨X1,rfl,s,l,xB,yd,xi⟩;replace yd:=Af (yz.out.trans yd);rw[xp.out]at s xi;clear yz xR;have yV:(q:Int)%4294967296=(q:Int):=by omega
   by_cases xM:val X<q*val v
   .have yp:decide (val X<q*val v)=true:=by simpa using xM
    rw[Yao xM,Ybz]at xi
    have xh:1<=q:=by
     rcases YaB q with h | h
     .rw [h,YcH]at xM;omega
     .exact h
    rw[yp];replace s:=Af s;replace l:=Af l;replace xB:=Af xB;replace xi:=Af xi;replace xM:=Af xM;clear yp yV;go_wp2_with fail;refine(WX gu (n+1+1) _ _ (U.take k) post X1 v k yv xE.out xB.out s.out (by rw[xo.out];omega) ZbC l.out sv.out (λwz hO=>xG.out wz (yd.out.trans hO)) ZbC).mono ?_;rintro e yD ⟨X2,c,rfl,p,s2,xQ,ym,xy,G⟩;replace ym:=Af (yd.out.trans ym);rw[s.out]at p xy
    have yM:Hid (val X2+(q-1)*val v=val X/\val X2<val v):=by
     have xg:=Ei s2;rw[p]at xg
     have I:(q-1)*val v+val v=q*val v:=by
      obtain⟨a,rfl⟩:∃a,q=a+1:=⟨q-1,by omega⟩;rw[Ycd,YbG,YcF]
     have A:=xi.out;have K:=xM.out;have F:=yB.out
     have xl:c=1:=by
      rcases YaB c with h | h
      .subst h;omega
      .omega
     subst xl;rw[Ybz]at xy;exact⟨by omega,by omega⟩
    have xF:Blk yD gq 335 (wv Q):=(ym.out.block _ (Blk.lt Y.out.2.2.2.2.2.1) ZbC).trans Y.out.2.2.2.2.2.1;have yL:yD.cell? ⟨gq,k,none⟩=some (.int .u32 (Q.getD k 0:Nat)):=by rw[xF.cell,Ec ZeR]
    have xf:=xF.frozen k;have xn:=Af (Y.out.step ZbC yt.out xp.out xZ.out xE.out xY.out ya.out p s2 xQ ym.out (q:=q-1) ZcU yM.out.1 yM.out.2 xN (e:=((q-1:Nat):Int)) rfl);obtain⟨Z,hZ⟩:∃Z,q=Z+1:=⟨q-1,by omega⟩;have za:((q:Int)-1)=(Z:Int):=by omega
    have zb:(Z:Int)%4294967296=(Z:Int):=by omega
    rw[show q-1=Z by omega]at xn;clear p s2 xQ ym xy G xF;subst hZ;exact ZiJ
   .have yp:decide (val X<q*val v)=false:=by simpa using xM
    rw[Yaj xM,Ycz,Ybf]at xi;rw[yp]
    have yI:val X1<val v:=by
     have xm:0<val v:=by have:=xX.out;rcases YaB (val v)with h | h;rw[h]at this;omega;exact h
     have g:val X<(val X/val v+1)*val v:=by
      rw[YaM];exact Yel (val X) xm
     have f:(val X/val v+1)*val v<=(q+1)*val v:=YaC _ (by have:=yA.out;omega);rw[YbG q,YcF]at f;omega
    have xF:Blk yv gq 335 (wv Q):=(yd.out.block _ (Blk.lt Y.out.2.2.2.2.2.1) ZbC).trans Y.out.2.2.2.2.2.1;have yL:yv.cell? ⟨gq,k,none⟩=some (.int .u32 (Q.getD k 0:Nat)):=by rw[xF.cell,Ec ZeR]
    have xf:=xF.frozen k;have xn:=Af (Y.out.step ZbC yt.out xp.out xZ.out xE.out xY.out ya.out s l xB yd.out N.out xi yI xN (e:=((q:Nat):Int)) rfl);clear s l xB yd xi xF yI xM yp;exact ZiJ
theorem KR(s a:Value)(x y:Nat)(w:World)(t:Words w s (Aw x))(E:Words w a (Aw y))(g:(Aw x).length<=4398046511103)(c:y≠0) :
  Calls prog 282 #[s,a] w (LV x y w):=by
 rcases YaI x y with h | h
 .exact ZA s a x y w t E h
 .by_cases q:(Aw y).length=1
  .exact Xb s a x y w t E ZbC h q
  .have A:(Aw y).length≠0:=λe=>c (Br.1 e)
   exact Xc s a x y w t E g h ZbC
theorem A6R(b H:Bool)(A Q:Option Addr)(n c I l:Nat)(x y:Int)(w:World)(h:IsInt w (.bool b) (.slice A n c) x)(J:IsInt w (.bool H) (.slice Q I l) y)(F:(Aw x.natAbs).length<=4398046511104)(V:(Aw y.natAbs).length<=4398046511104) :
  Calls prog 215 #[.agg #[.bool b,.slice A n c],.agg #[.bool H,.slice Q I l]] w (JL (x*y) w):=by
 replace h:=Af h;replace J:=Af J;replace F:=Af F;replace V:=Af V;go_enter func215,ntmps215;go_wp2
 refine wp_region_v ZbG [[], [(5, 0)], [], [(7, 2)], [(6, 1), (8, 3)], [], [(10, 5)], [], [(12, 7)], [(11, 6), (13, 8)], [(9, 4), (14, 9)]] [[], [0], [], [2], [0, 1, 2, 3], [], [5], [], [7], [5, 6, 7, 8], [0, 1, 2, 3, 4, 5, 6, 7, 8, 9]]
  [λv _=>v=.pointer (some ⟨w.heap.size,0,none⟩),λv _=>v=.bool b,λv _=>v=.pointer (some ⟨w.heap.size+1,0,none⟩),λv _=>v=.bool H,λv _=>v=.bool (!(b==H)),λv _=>v=.pointer (some ⟨w.heap.size,1,none⟩),λv _=>v=.slice A n c,λv _=>v=.pointer (some ⟨w.heap.size+1,1,none⟩),λv _=>v=.slice Q I l,λv N=>Words N v (Aw (val (Aw x.natAbs)*val (Aw y.natAbs))),λv N=>∃b A n c,v=.agg #[.bool b,.slice A n c]/\IsInt N (.bool b) (.slice A n c) (x*y)]
  rfl ZbG ZbG ?stab ?steps ?fin
 case stab=>exact ZjK
 case steps=>
  refine .cons ?s0 (.cons ?s1 (.cons ?s2 (.cons ?s3 (.cons ?s4 (.cons ?s5 (.cons ?s6 (.cons ?s7 (.cons ?s8 (.cons ?s9 (.cons ?s10 .nil))))))))))
  case s0=>
   exact Ziw
  case s1=>
   intro N i Z C t G p;exact ZhT
  case s2=>
   exact Zix
  case s3=>
   intro N i Z C t G p;exact ZhP
  case s4=>
   intro N i Z C t G p;have s:i (.tmp 6)=.bool b:=C.1 _ rfl;exact ZhR
  case s5=>
   exact Ziw
  case s6=>
   intro N i Z C t G p;exact ZhQ
  case s7=>
   exact Zix
  case s8=>
   intro N i Z C t G p;exact ZhL
  case s9=>
   intro N i Z C t G p;have xc:i (.tmp 11)=.slice A n c:=C.1 _ rfl;have xe:i (.tmp 13)=.slice Q I l:=C.2.1 _ rfl;refine CF Zfa (KP _ _ _ _ _ (h.out.2.ext (((((Ext.refl _).alloc _).alloc _).alloc _).drew.trans Z)) (J.out.2.ext (((((Ext.refl _).alloc _).alloc _).alloc _).drew.trans Z)) F.out V.out) ?_;rintro e k ⟨T,rfl,M,S⟩;exact⟨T,rfl,S,M⟩
  case s10=>
   intro N i Z C t G p;have e9:i (.tmp 9)=.bool (!(b==H)):=C.1 _ rfl;have xf:=C.2.1 _ rfl;refine CF Zfe (IH (!(b==H)) _ _ _ xf) ?_;exact ZgX
 case fin=>
  intro g N Z hF;obtain⟨X,R,d,z,o,r⟩:=hF 10 _ rfl;simp only[Yat,Ybg,Nat.reduceAdd,Ybn,YaW,Ybl,Ycf,FH,Act.put,Ybe,YbB,YbS,o];clear hF o;replace r:=Af r;obtain⟨O,f⟩:=Z.cells;replace Z:=Af Z;go_wp2;refine bodyPost_ret (v:=.agg #[.bool X,.slice R d z]) (by simp[results,Tryz.results215,go_sem,O]) rfl ⟨_,_,_,_,rfl,?_,?_⟩
  .exact Zar
  .exact ZjL
theorem A6Q(b:Bool)(A:Option Addr)(n c:Nat)(z:Int)(w:World)(h:IsInt w (.bool b) (.slice A n c) z) :
  Calls prog 279 #[.agg #[.bool b,.slice A n c]] w (JL (-z) w):=by
 have d:=Af h.neg_eq;replace h:=Af h;go_enter func279,ntmps279;go_wp2_with fail;refine(IH (!b) _ _ _ (h.out.2.ext (((Ext.refl _).alloc _).alloc _))).mono ?_;rintro e N ⟨B,X,C,Y,rfl,F,T⟩;rw[AK,d.out]at F;replace F:=Af F;obtain⟨q,E⟩:=T.cells;replace T:=Af T;go_wp2;refine bodyPost_ret (v:=.agg #[.bool B,.slice X C Y]) (by simp[results,Tryz.results279,go_sem,q]) rfl ⟨_,_,_,_,rfl,?_,?_⟩
 .have L:Ty N (w.heap.size+1) 109:=(Fy _ _ ZbR).ext T.out
  exact(F.out.set L ZbH _).set (L.set _ _) ZbH _
 .exact ((((Ext.refl _).alloc _).alloc _).trans T.out |>.set ZcM _).set ZcM _
theorem A47(b:Bool)(A:Option Addr)(n c:Nat)(z:Int)(w:World)(h:IsInt w (.bool b) (.slice A n c) z) :
  Calls prog 238 #[.agg #[.bool b,.slice A n c]] w λe N=>e=.returned (.int .i64 z.sign)/\Ext w N:=by
 obtain⟨q,B⟩:=h;have o:=B.len;clear B;injection q with q
 cases b with
 |true=>
  have E:z<0:=ZjI
  clear q o;go_enter func238,ntmps238;go_wp2;go_ret;exact⟨by rw[Ybi E];rfl,(Ext.refl _).alloc _⟩
 |false=>
  have E:0<=z:=by
   have:¬z<0:=ZjI
   omega
  clear q;by_cases C:z=0
  .subst C
   obtain rfl:n=0:=by rw[o];show(Aw 0).length=0;rw[BJ];rfl
   clear o;go_enter func238,ntmps238;go_wp2;go_ret;exact⟨rfl,(Ext.refl _).alloc _⟩
  .have F:n≠0:=by
    rw[o];intro e;have:=Br.1 e;omega
   have a:Hid (z.sign=1):=Af (Ybr ZbC);clear o C E;have T:¬(n:Int)<1:=by omega
   have G:1<=n:=by omega
   by_cases q:n=1
   .subst q
    go_enter func238,ntmps238;go_wp2;go_ret;exact⟨by rw[a.out];rfl,(Ext.refl _).alloc _⟩
   .have I:1<n:=by omega
    have J:(1:Int)<n:=by omega
    go_enter func238,ntmps238;go_wp2;go_ret;exact⟨by rw[a.out];exact A2n (k:=.i64) (a:=min (n:Int) 1) (b:=1) ZbC,(Ext.refl _).alloc _⟩
theorem Tf(z:Int)(w:World)(c:0<=z)(v:z<18446744073709551616) :
  Calls prog 240 #[.int .u64 z] w λe N=>∃X,e=.returned X/\Words N X (Aw z.toNat)/\Ext w N:=by
 obtain⟨m,rfl⟩:=YbJ c;rw[YdK];exact Jc m w ZbC
theorem A8S(n:Int)(w:World)(c:-9223372036854775808<=n)(q:n<=9223372036854775807) :
  Calls prog 141 #[.int .i64 n] w λe N=>JL n w e N:=by
 by_cases g:n<0
 .have d:decide (n<0)=true:=by simpa using g
  go_enter func141,ntmps141;go_wp2_with fail;rw[show -(n+1)+1=-n by omega];refine(Tf _ _ ZbC ZbC).mono ?_;rintro e k ⟨X,rfl,B,Z⟩;go_wp2_with fail;refine(IH _ _ _ _ B).mono ?_;rintro e C ⟨K,o,H,F,rfl,m,T⟩;replace T:=Z.trans T;obtain⟨A,E⟩:=T.cells;replace m:=Af m;replace T:=Af T;clear Z B;go_wp2;refine bodyPost_ret (v:=.agg #[.bool K,.slice o H F]) Zfj rfl ⟨_,_,_,_,rfl,?_,?_⟩
  .exact Zap
  .exact ZjJ
 .have d:decide (n<0)=false:=by simpa using g
  go_enter func141,ntmps141;go_wp2_with fail;refine(Tf _ _ ZbC ZbC).mono ?_;rintro e k ⟨X,rfl,B,Z⟩;go_wp2_with fail;refine(IH _ _ _ _ B).mono ?_;rintro e C ⟨K,o,H,F,rfl,m,T⟩;replace T:=Z.trans T;obtain⟨A,E⟩:=T.cells;replace m:=Af m;replace T:=Af T;clear Z B;go_wp2;refine bodyPost_ret (v:=.agg #[.bool K,.slice o H F]) Zfj rfl ⟨_,_,_,_,rfl,?_,?_⟩
  .exact Zaq
  .exact ZjJ
def A6T(l:List Nat)(w:World)(e:Ending)(N:World):Prop:=∃X,e=.returned X/\Words N X l/\Ext w N
theorem ZB(s Z:Value)(x y:Nat)(w:World)(t:Words w s (Aw x))(E:Words w Z (Aw y))(g:(Aw x).length<=4398046511103)(W:(Aw y).length<=4398046511103) :
  Calls prog 283 #[s,Z] w (A6T (Aw (Nat.gcd x y)) w):=by
 obtain⟨A,n,c,rfl⟩:=t.form;obtain⟨S,B,l,rfl⟩:=E.form;generalize i:Nat.gcd x y=G at *;replace i:=Af i;replace t:=Af t;replace E:=Af E;replace g:=Af g;replace W:=Af W;go_enter func283,ntmps283;go_wp2;go_loopg [0,1] (y) (λk X Y wr=>A7r w G 4398046511103 k X Y wr)
 case atStart=>exact⟨_,_,_,_,_,_,_,_,rfl,rfl,t.out,E.out,i.out,rfl,g.out,W.out,Ext.refl _⟩
 case round=>
  obtain⟨p,q,R,U,m,K,f,L,rfl,rfl,N,j,xb,rfl,M,J,z⟩:=hrel;clear t E;have xh:=N.len;have xg:=j.len;by_cases xe:q=0
  .subst xe
   obtain rfl:f=0:=by rw[xg,BJ];rfl
   have F:Hid (p=G):=by show p=G;rw[<-xb];simp
   replace N:=Af N;replace z:=Af z;clear xh xg xb j M J;go_wp2;go_ret;exact⟨_,rfl,by rw[<-F.out];exact N.out,z.out⟩
  .have xa:0<f:=by
    rcases YaB f with h | h
    .exact absurd (Br.1 (by rw[<-xg];exact h)) xe
    .exact h
   have xf:decide ((0:Int)<f)=true:=by simp;omega
   by_cases a:m<=2/\f<=2
   .obtain ⟨H,xc⟩:=a
    have r:decide ((m:Int)<=2)=true:=by simp;omega
    have P:decide ((f:Int)<=2)=true:=by simp;omega
    have xl:p<18446744073709551616:=by rw[<-A33];exact FK ZbC
    have u:q<18446744073709551616:=by rw[<-A33];exact FK ZbC
    have xj:=Af (show(Aw p).length<=2 by omega);have xk:=Af (show(Aw q).length<=2 by omega);replace N:=Af N;replace j:=Af j;replace xb:=Af xb;replace z:=Af z;replace xh:=Af xh;replace xg:=Af xg;clear M J;go_wp2_with fail;refine(QD _ _ _ N.out xj.out).mono ?_;rintro e C ⟨rfl,rfl⟩;rw[AK];go_wp2_with fail;refine(QD _ _ _ j.out xk.out).mono ?_;rintro e C ⟨rfl,rfl⟩;rw[AK];go_wp2_with fail;refine(Zx p q _ xl u).mono ?_;rintro e C ⟨rfl,rfl⟩;rw[xb.out]
    have xm:G<18446744073709551616:=by
     rw[<-xb.out];exact Ycc (Nat.gcd_le_right _ (YbC xe)) u
    go_wp2_with fail;refine(Jc G _ xm).mono ?_;rintro e Q ⟨v2,rfl,I,T⟩;replace I:=Af I;replace T:=Af (z.out.trans T);go_wp2;go_ret;exact⟨_,rfl,I.out,T.out⟩
   .have xi:Hid ((Aw (p%q)).length<=4398046511103):=DS (Yca (YaR p (YbC xe))) J
    have O:p%q<q:=YaR _ (YbC xe);have v:Hid (Nat.gcd q (p%q)=G):=by rw[<-xb,YcQ p q,YeS q p,YcQ];rfl
    replace N:=Af N;replace j:=Af j;replace xb:=Af xb;replace z:=Af z;replace M:=Af M;replace J:=Af J;replace xh:=Af xh;replace xg:=Af xg;replace O:=Af O;by_cases H:m<=2
    .have xc:¬f<=2:=λh=>a ⟨H,h⟩
     have r:decide ((m:Int)<=2)=true:=by simp;omega
     have P:decide ((f:Int)<=2)=false:=by simp;omega
     replace a:=Af a;go_wp2_with fail;refine(KR _ _ p q _ N.out j.out M.out xe).mono ?_;rintro e C ⟨A3,A4,n3,b,n4,o,rfl,xd,d,V⟩;replace j:=Af (j.out.ext V);replace V:=Af (z.out.trans V);replace d:=Af d;clear N z xd;go_wp2;go_roundg (p%q)
     case measure=>exact O.out
     case rel=>exact⟨_,_,_,_,_,_,_,_,rfl,rfl,j.out,d.out,v.out,rfl,J.out,xi.out,V.out⟩
    .have r:decide ((m:Int)<=2)=false:=by simp; omega
     replace a:=Af a;go_wp2_with fail;refine(KR _ _ p q _ N.out j.out M.out xe).mono ?_;rintro e C ⟨A3,A4,n3,b,n4,o,rfl,xd,d,V⟩;replace j:=Af (j.out.ext V);replace V:=Af (z.out.trans V);replace d:=Af d;clear N z xd;go_wp2;go_roundg (p%q)
     case measure=>exact O.out
     case rel=>exact⟨_,_,_,_,_,_,_,_,rfl,rfl,j.out,d.out,v.out,rfl,J.out,xi.out,V.out⟩
theorem A6S(b H:Bool)(A O:Option Addr)(n c q l:Nat)(x y:Int)(w:World)(h:IsInt w (.bool b) (.slice A n c) x)(B:IsInt w (.bool H) (.slice O q l) y)(g:(Aw x.natAbs).length<=4398046511103)(F:(Aw y.natAbs).length<=4398046511103) :
  Calls prog 226 #[.agg #[.bool b,.slice A n c],.agg #[.bool H,.slice O q l]] w (JL (Nat.gcd x.natAbs y.natAbs) w):=by
 replace h:=Af h;replace B:=Af B;replace g:=Af g;replace F:=Af F;go_enter func226,ntmps226;go_wp2_with fail;refine(ZB _ _ _ _ _ (h.out.2.ext ((((Ext.refl _).alloc _).alloc _).alloc _)) (B.out.2.ext ((((Ext.refl _).alloc _).alloc _).alloc _)) g.out F.out).mono ?_;rintro e k ⟨S,rfl,C,Q⟩;obtain⟨V,m,K,rfl⟩:=C.form;replace C:=Af C;replace Q:=Af Q;go_wp2_with fail;refine(IH false _ _ _ C.out).mono ?_;rintro e N ⟨G,X,I,Y,rfl,M,T⟩;rw[AK,show Ku false (Nat.gcd x.natAbs y.natAbs)=((Nat.gcd x.natAbs y.natAbs:Nat):Int)from rfl]at M;replace T:=Af (Q.out.trans T);replace M:=Af M;obtain⟨E,J⟩:=T.out.cells;go_wp2;refine bodyPost_ret (v:=.agg #[.bool G,.slice X I Y]) (by simp[results,Tryz.results226,go_sem,E]) rfl ⟨_,_,_,_,rfl,?_,?_⟩
 .have L:Ty N (w.heap.size+2) 109:=(Fy _ _ ZbR).ext T.out
  exact(M.out.set L ZbH _).set (L.set _ _) ZbH _
 .exact (((((Ext.refl _).alloc _).alloc _).alloc _).trans T.out |>.set ZcM _).set ZcM _
def Ps(x y:Int):Int:=if y<0 then -(Nat.gcd x.natAbs y.natAbs:Int)else(Nat.gcd x.natAbs y.natAbs:Int)
theorem A8k{x y:Int}(M:y≠0):Ps x y≠0:=by
 have:Nat.gcd x.natAbs y.natAbs≠0:=λh=>by have:=(Nat.gcd_eq_zero_iff.1 h).2;omega
 unfold Ps;split<;>omega
theorem A0P{x y:Int}(M:y≠0):(Rat.divInt x y).num=x/Ps x y/\((Rat.divInt x y).den:Int)=y/Ps x y:=by
 unfold Ps;by_cases h:y<0
 .rw [Yao h,<-Rat.neg_divInt_neg]
  have q:=DP (x:=-x) (y:=-y) ZbC;rw[Yez,Yez]at q;have A:((Nat.gcd x.natAbs y.natAbs:Nat):Int)∣x:=Ydc.2 (YcG _ _);have L:((Nat.gcd x.natAbs y.natAbs:Nat):Int)∣y:=Ydc.2 (YbN _ _);rw[q.1,q.2,Int.ediv_neg,Int.ediv_neg,Int.neg_ediv_of_dvd A,Int.neg_ediv_of_dvd L];exact ZjF
 .rw [Yaj h]
  exact DP ZbC
theorem A0M(p q:Rat):p*q=Rat.divInt (p.num*q.num) ((p.den:Int)*q.den):=by
 rw[Rat.mul_def,YdJ];have:((p.den:Int)*q.den)=((p.den*q.den:Nat):Int):=by simp
 rw[this];rfl
theorem A6X(b H:Bool)(A O:Option Addr)(n c F l:Nat)(p:Rat)(w:World)(h:IsRat w (.bool b) (.slice A n c) (.bool H) (.slice O F l) p) :
  Calls prog 228 #[.agg #[.bool b,.slice A n c,.bool H,.slice O F l]] w (Ab7 (-p) w):=by
 have r:Hid (Blk ((w.alloc (.cells #[.bool b,.slice A n c,.bool H,.slice O F l] 111)).alloc (.cells #[.bool false,.slice none 0 0,.bool false,.slice none 0 0] 111)) w.heap.size 111 #[.bool b,.slice A n c,.bool H,.slice O F l]):=(Blk.new _ _ _).alloc _;have d:Hid (Blk ((w.alloc (.cells #[.bool b,.slice A n c,.bool H,.slice O F l] 111)).alloc (.cells #[.bool false,.slice none 0 0,.bool false,.slice none 0 0] 111)) (w.heap.size+1) 111 #[.bool false,.slice none 0 0,.bool false,.slice none 0 0]):=EV _ _ ZbR;have g:Hid (Ext w ((w.alloc (.cells #[.bool b,.slice A n c,.bool H,.slice O F l] 111)).alloc (.cells #[.bool false,.slice none 0 0,.bool false,.slice none 0 0] 111))):=((Ext.refl _).alloc _).alloc _;have f:=Af (h.ext g.out);clear h;go_enter func228,ntmps228;go_upto_region 1 with(fail)
 generalize ((w.alloc (.cells #[.bool b,.slice A n c,.bool H,.slice O F l] 111)).alloc (.cells #[.bool false,.slice none 0 0,.bool false,.slice none 0 0] 111))=wq at *;obtain⟨y,xd⟩:∃y,y=w.heap.size:=⟨_,rfl⟩;obtain⟨R,xe⟩:∃R,R=w.heap.size+1:=⟨_,rfl⟩;rw[<-xe]at d ⊢;rw[<-xd]at r ⊢;have U:w.heap.size<=R:=by omega
 clear xd xe
 refine wp_region_v ZbG [[], [(3, 0)], [(4, 1)], [], [(6, 3)], [(5, 2), (7, 4)]] [[], [0], [0, 1], [], [3], [0, 1, 2, 3, 4]]
  [λv _=>v=.pointer (some ⟨y,0,none⟩),λv _=>v=.agg #[.bool b,.slice A n c],λv N=>∃b A n c,v=.agg #[.bool b,.slice A n c]/\IsInt N (.bool b) (.slice A n c) (-p.num),λv _=>v=.pointer (some ⟨y,2,none⟩),λv _=>v=.agg #[.bool H,.slice O F l],λv N=>∃b A n c H O F l,v=.agg #[.bool b,.slice A n c,.bool H,.slice O F l]/\IsRat N (.bool b) (.slice A n c) (.bool H) (.slice O F l) (-p)]
  rfl ZbG ZbG ?stab ?steps ?fin
 case stab=>exact .cons (Stab.eq _) (.cons (Stab.eq _) (.cons (λ_ _ _ E ⟨b,A,n,c,q,B⟩=>⟨b,A,n,c,q,B.ext E⟩) (.cons (Stab.eq _) (.cons (Stab.eq _) (.cons (λ_ _ _ E ⟨b,A,n,c,H,O,F,l,q,B⟩=>⟨b,A,n,c,H,O,F,l,q,B.ext E⟩) .nil)))))
 case steps=>
  refine .cons ?s0 (.cons ?s1 (.cons ?s2 (.cons ?s3 (.cons ?s4 (.cons ?s5 .nil)))))
  case s0=>
   intro N i Z C t G I;exact Zij
  case s1=>
   intro N i Z C t G I;have M:i (.tmp 3)=.pointer (some ⟨y,0,none⟩):=C.1 _ rfl;have J:N.cell? ⟨y,0,none⟩=some (.bool b):=Z.cellv ((r.out.cell 0));have K:N.cell? ⟨y,1,none⟩=some (.slice A n c):=Z.cellv ((r.out.cell 1));exact AD (by simp[execOp,M,J,K,go_sem]) rfl
  case s2=>
   intro N i Z C t G I;have S:i (.tmp 4)=.agg #[.bool b,.slice A n c]:=C.1 _ rfl;refine CF (by simp[execOp,resolve,invoke,I,S,go_sem]) (A6Q b A n c _ _ (f.out.1.ext ((Ext.refl _).drew.trans Z))) ?_;rintro e k ⟨j,a,m,X,rfl,xa,Q⟩;exact⟨_,rfl,Q,j,a,m,X,rfl,xa⟩
  case s3=>
   intro N i Z C t G I;exact Zij
  case s4=>
   intro N i Z C t G I;have Y:i (.tmp 6)=.pointer (some ⟨y,2,none⟩):=C.1 _ rfl;have J:N.cell? ⟨y,2,none⟩=some (.bool H):=Z.cellv ((r.out.cell 2));have K:N.cell? ⟨y,3,none⟩=some (.slice O F l):=Z.cellv ((r.out.cell 3));exact AD (by simp[execOp,Y,J,K,go_sem]) rfl
  case s5=>
   intro N i Z C t G I;have f5:=C.1 _ rfl;have x:i (.tmp 7)=.agg #[.bool H,.slice O F l]:=C.2.1 _ rfl;obtain⟨b6,A6,n6,z,V,xf⟩:=f5;exact AD (v:=.agg #[.bool b6,.slice A6 n6 z,.bool H,.slice O F l]) (by simp[execOp,V,x,go_sem]) ⟨b6,A6,n6,z,_,_,_,_,rfl,xf,f.out.2.ext ((Ext.refl _).drew.trans Z)⟩
 case fin=>
  intro gf N Z hF;obtain⟨b8,A8,n8,xb,b9,A9,n9,c9,T,xc⟩:=hF 5 _ rfl;replace Z:=Af ((Ext.refl _).drew.trans Z);have P:=d.out.ext Z.out;have z0:N.cell? ⟨R,0,none⟩=some (.bool false):=P.cell 0;have o:N.cell? ⟨R,1,none⟩=some (.slice none 0 0):=P.cell 1;have s:N.cell? ⟨R,2,none⟩=some (.bool false):=P.cell 2;have u:N.cell? ⟨R,3,none⟩=some (.slice none 0 0):=P.cell 3;have y0:=P.frozen 0;have y1:=P.frozen 1;have y2:=P.frozen 2;have y3:=P.frozen 3;have L:Ty N R 111:=P.ty;simp only[Yat,Ybg,Nat.reduceAdd,Ybn,YaW,Ybl,Ycf,FH,Act.put,Ybe,YbB,YbS,T];replace xc:=Af xc;replace P:=Af P;clear hF T;go_wp2;refine bodyPost_ret (v:=.agg #[.bool b8,.slice A8 n8 xb,.bool b9,.slice A9 n9 c9]) (by simp[results,Tryz.results228,go_sem,z0,o,s,u]) rfl ⟨_,_,_,_,_,_,_,_,rfl,?_,?_⟩
  .exact xc.out.put4 (b:=R) L ZbH (.bool b8) (.slice A8 n8 xb) (.bool b9) (.slice A9 n9 c9)
  .exact (g.out.trans Z.out).put4 (b:=R) ZbC (.bool b8) (.slice A8 n8 xb) (.bool b9) (.slice A9 n9 c9)
