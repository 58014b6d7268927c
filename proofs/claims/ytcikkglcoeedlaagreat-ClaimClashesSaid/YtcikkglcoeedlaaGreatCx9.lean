/- Part 9 of the proof of claimClashes_holds. No condition. -/
import Derived.Laws.CopyRow
import Derived.Test.YtcikkglcoeedlaaGreatCx6
import Derived.Test.YtcikkglcoeedlaaGreatCx8
set_option linter.unusedSimpArgs false
set_option linter.unusedVariables false
set_option maxRecDepth 100000
set_option maxHeartbeats 4000000
namespace Go.Proofs.YtcikkglcoeedlaaGreat
open Go.RowKit
variable{ud:Array Oper}{l f vm vU:List Nat}{n b T m e:Nat}{z:Value}{w h uA:World}
theorem Words.old{v:Value}(u:Words w v l)(F:∀k,k<w.heap.size->h.heap[k]? = w.heap[k]?):Words h v l:=by
 obtain⟨A,c,M,I,s,L,E⟩:=u;refine⟨A,c,M,I,s,L,λG=>?_⟩;obtain⟨b,o,Z,N,B,C,K⟩:=E G;exact⟨b,o,Z,N,B,(F b (Bj C)).trans C,K⟩
theorem NT{P:Program}{rest:List Oper}{o:Oper}{a:Act}{Q:Exit->Act->World->Prop}(W:o.guard=none)(s x:Operand)(t:TypeId)
  (n:o.op=.call { callee:=.builtin .copy,args:=#[s,x],argTypes:=#[t,t] }) (v u:Value) (b:a.eval s=v) (C:a.eval x=u)
  (q:(Builtin.copy_ #[t,t] o.type #[v,u]).run P w=.ok z h) (A:wpList P ud Q rest (a.put o.dst z) h):wpList P ud Q (o::rest) a w:=by
 refine wpList_plain W λK p=>?_;unfold Oper.wp execOp;simp only[n,resolve,invoke,builtin,Sem.run_bind,Sem.run_pure,Result.andThen_ok,List.map_toArray,List.map_cons,List.map_nil,b,C,q];exact p _ _ A
theorem Oo{A:Option Addr}{c:Nat}(G:Blk w n 335 (wv (List.replicate b 0)))(h:Words w (.slice A l.length c) l)(g:0<l.length)(L:l.length<=b) :
  ∃O,(Builtin.copy_ #[107,107] 3 #[.slice (some ⟨n,0,none⟩) b b,.slice A l.length c]).run Tryz.prog w=.ok (goInt l.length) O/\Blk O n 335 (wv (l++List.replicate (b-l.length) 0))/\Only n w O:=by
 obtain⟨K,r,F,_,_,C⟩:=h.open_;cases F;obtain⟨u,o,rfl,E,I⟩:=C g;have N:(wv l).toList.length=l.length:=by simp[wv]
 have Y := run_copy_row Tryz.prog w 107 107 3 335 n 0 b b ⟨u, o, none⟩ l.length c (wv (List.replicate b 0)) 335 (wv l).toList Tryz.underlying107 Zbz G (by rw [N]; exact (Nat.min_eq_left L).symm)
  (λj v i=>by
   have M:j<l.length:=by have:=(List.getElem?_eq_some_iff.1 i).1;omega
   rw[VY,I j M];rw[Array.getElem?_toList,Dn M]at i;exact i) (by rw[N,A2c];simp;omega) (λv F=>by simp[wv]at F;obtain⟨x,_,rfl⟩:=F;rfl)
 rw[N]at Y;refine⟨_,Y,?_,⟨rfl,rfl,rfl,by simp[World.setRow],λk _ B=>setRow_other w n k _ B⟩⟩
 have e:((wv (List.replicate b 0)).toList.take 0++(wv l).toList++(wv (List.replicate b 0)).toList.drop (0+l.length)).toArray=wv (l++List.replicate (b-l.length) 0):=by
  simp[wv]
 rw[e];exact setRow_heap w n _ _ 335 _ G
def DvRel(w wr:World)(e I:Nat)(J v U Q:List Nat)(m n k:Nat):Prop:=
 U.length=m+1/\Bt U/\Blk wr e 335 (wv U)/\Q.length=m-n+1/\Bt Q/\Blk wr I 335 (wv Q) /\
 val (J.drop k)=val (Q.drop k)*val v+val (U.drop k)/\U.take k=J.take k/\val (U.drop k)<val v/\Below e w wr
theorem DvRel.window{m A k:Nat}(u:DvRel w h n b l f vm vU m A (k+1))(E:k+A<=m)(O:f.length=A)(M:Bt f) :
  ∃x post,x.length=A+1/\Bt x/\Win h n (vm.take k) x post/\val x<BB*val f/\val post=0/\vm=vm.take k++x++post/\val x=vm.getD k 0+BB*val (vm.drop (k+1))/\(vm.take k).length=k:=by
 obtain⟨B,C,I,V,F,y,G,Z,K,L⟩:=u
 have e:vm=vm.take k++(vm.drop k).take (A+1)++vm.drop (k+(A+1)):=by
  exact Zht
 have q:val f<BB^A:=by
  have:=Dr M;rwa [O]at this
 have d:=Do (l:=vm) (k:=k) Zbx;have v:=GL vm k (A+1) Zbx;have Y:=AK C k
 have R:val (vm.drop k)<BB*val f:=by
  have:BB*(val (vm.drop (k+1))+1)<=BB*val f:=Nat.mul_le_mul_left _ K;rw[Nat.mul_add]at this;omega
 have Q:val (vm.drop (k+(A+1)))=0:=by
  rcases Nat.eq_zero_or_pos (val (vm.drop (k+(A+1))))with u | u
  .exact u
  .exfalso
   have J:BB^(A+1)*1<=BB^(A+1)*val (vm.drop (k+(A+1))):=Nat.mul_le_mul_left _ u;have N:BB*val f<=BB*BB^A:=Nat.mul_le_mul_left _ (Nat.le_of_lt q);have S:BB^(A+1)=BB*BB^A:=by rw[Nat.pow_succ,Nat.mul_comm]
   omega
 rw[Q,Nat.mul_zero,Nat.add_zero]at v;refine⟨(vm.drop k).take (A+1),vm.drop (k+(A+1)),by simp;omega,CI (Oj C k) _,?_,by rw[<-v];exact R,Q,e,by rw[<-v];exact d,by simp;omega⟩;unfold Win;rw[<-e];exact I
theorem DvRel.step{J v U Q x P post:List Nat}{m A k q:Nat}(u:DvRel w h n b J v U Q m A (k+1))(E:k+A<=m)(o:J.length=m+1)(F:x.length=A+1)(H:U=U.take k++x++post)(c:(U.take k).length=k)(g:val post=0)(r:val x=U.getD k 0+BB*val (U.drop (k+1)))
  (j:P.length=A+1) (t:Bt P) (R:Win uA n (U.take k) P post) (s:Only n h uA) (z:q<BB) (GX:val P+q*val v=val x) (G:val P<val v) (p:n<b) {e:Int} (a:e=(q:Nat)) :
  DvRel w (uA.setCell ⟨b,k,none⟩ (.int .u32 e)) n b J v (U.take k++P++post) (Q.set k q) m A k:=by
 obtain⟨B,C,I,V,L,O,S,Z,X,Y⟩:=u;have sU:Bt (U.take k):=CI C k;have sp:Bt post:=λy N=>C y (by rw[H];simp[N]);have l:k<U.length:=by omega
 have T:Blk uA b 335 (wv Q):=(s.block b (Blk.lt O) Zbx).trans O
 have W:(U.take k++P++post).drop k=P++post:=by
  rw[List.append_assoc,List.drop_append,List.drop_eq_nil_of_le Zbx,c,Nat.sub_self];rfl
 have M:(U.take k++P++post).take k=U.take k:=by
  rw[List.append_assoc,List.take_append,c,Nat.sub_self,List.take_of_length_le Zbx];simp
 have xb:J.take k=U.take k:=ZaB
 have xa:J.getD k 0=U.getD k 0:=ZaC
 refine⟨?_,?_,?_,by simpa using V,CN L k z,?_,?_,?_,?_,?_⟩
 .have d:(U.take k++x++post).length=m+1:=by rw [<-H];exact B
  simp only[List.length_append]at d ⊢;omega
 .intro y N
  rcases List.mem_append.1 N with N | N
  .rcases List.mem_append.1 N with N | N
   .exact sU y N
   .exact t y N
  .exact sp y N
 .exact Blk.far R Zco _
 .rw [a,<-HJ];exact T.set k _
 .rw [W, FV g, Do (l:=J) Zbx, Do (l:=Q.set k q) (by rw [List.length_set]; omega), Jp, BS Zbx, S, xa]
  have:BB*(val (Q.drop (k+1))*val v+val (U.drop (k+1)))=BB*val (Q.drop (k+1))*val v+BB*val (U.drop (k+1)):=by rw[Nat.mul_add,Nat.mul_assoc]
  rw[this,Nat.add_mul];omega
 .rw [M,xb]
 .rw [W,FV g];exact G
 .have f:Below n w uA:=⟨s.os.trans Y.os, s.tape.trans Y.tape, s.output.trans Y.output, Nat.le_trans Y.size s.size, λi K=>(s.block i (by have:=Blk.lt I; omega) Zbx).trans (Y.block i K)⟩
  exact Below.setCell f Zco _
theorem Vs(L:(Ao n).length=b+1)(M:(Ao n).getD b 0=T)(g:0<T)(Q:m=BB/(T+1)) :
  0<m/\m<BB/\(Ao (n*m)).length=b+1/\2147483648<=(Ao (n*m)).getD b 0:=by
 have o:T<BB:=by rw[<-M];exact AK (BK n) b
 have v:(T+1)*m<=BB:=by rw[Q];exact Nat.mul_div_le BB (T+1)
 have Z:0<m:=by rw[Q];exact Nat.div_pos Zbx Zbx
 have R:m<BB:=by
  have:2*m<=(T+1)*m:=Nat.mul_le_mul_right _ Zbx;have:=Cp;omega
 have w:2147483648<=T*m:=by
  have B:BB<(T+1)*(m+1):=by rw[Q];exact Nat.lt_mul_div_succ BB Zbx
  rw[Nat.add_mul,Nat.mul_add,Nat.mul_one,Nat.one_mul]at B;rw[Bn]at *;obtain⟨a,rfl⟩:∃a,T=a+1:=⟨T-1,by omega⟩;obtain⟨u,E⟩:∃u,m=u+1:=⟨m-1,by omega⟩;have e:(a+1)*m=a*u+a+u+1:=by rw[E,Nat.add_mul,Nat.mul_add];omega
  omega
 have N:=Ds L;rw[AB,M]at N
 have X:val ((Ao n).take b)<BB^b:=by
  have:=Dr (CI (BK n) b);exact Zhr
 have d:n*m<BB^(b+1):=by
  have I:n+1<=BB^b*(T+1):=ZfK
  have V:(n+1)*m<=BB^b*(T+1)*m:=Nat.mul_le_mul_right _ I;have y:BB^b*(T+1)*m<=BB^b*BB:=by rw[Nat.mul_assoc];exact Nat.mul_le_mul_left _ v
  rw[Nat.pow_succ];rw[Nat.add_mul]at V;omega
 have S:BB^b*2147483648<=n*m:=by
  have I:BB^b*T<=n:=by omega
  have V:BB^b*T*m<=n*m:=Nat.mul_le_mul_right _ I;have y:BB^b*2147483648<=BB^b*(T*m):=Nat.mul_le_mul_left _ w;rw[Nat.mul_assoc]at V;omega
 generalize n*m=z at *
 have O:(Ao z).length=b+1:=by
  have A:=Dr (BK z);rw[AB]at A
  have B:b<(Ao z).length:=by
   rcases Nat.lt_or_ge b (Ao z).length with h | h
   .exact h
   .have I:BB^(Ao z).length<=BB^b:=Nat.pow_le_pow_right Cp h
    have V:BB^b*1<=BB^b*2147483648:=Nat.mul_le_mul_left _ Zbx;omega
  rcases Nat.lt_or_ge (b+1) (Ao z).length with h | h
  .exfalso
   obtain⟨k,C⟩:∃k,(Ao z).length=k+1:=⟨(Ao z).length-1,by omega⟩;have e:=Ds C;rw[AB]at e;have I:=Db C;have V:BB^k*1<=BB^k*(Ao z).getD k 0:=Nat.mul_le_mul_left _ I;have F:BB^(b+1)<=BB^k:=Nat.pow_le_pow_right Cp Zbx;omega
  .omega
 refine⟨Z,R,O,?_⟩;have e:=Ds O;rw[AB]at e
 have G:val ((Ao z).take b)<BB^b:=by
  have:=Dr (CI (BK z) b);exact Zhr
 have K:BB^b*2147483648<BB^b*((Ao z).getD b 0+1):=ZfK
 have:=Nat.lt_of_mul_lt_mul_left K;omega
theorem Zn{a b D q r:Nat}(B:0<D)(E:0<b)(h:a*D=q*(b*D)+r)(Y:r<b*D):a/b=q/\r/D=a%b:=by
 have u:(a*D)/(b*D)=q:=by
  rw[h,Nat.mul_comm q,Nat.mul_add_div (Nat.mul_pos E B),Nat.div_eq_of_lt Y,Nat.add_zero]
 have A:(a*D)%(b*D)=r:=by
  exact Zhu
 rw[Nat.mul_div_mul_right _ _ B]at u;rw[Nat.mul_mod_mul_right]at A;refine⟨u,?_⟩;rw[<-A,Nat.mul_div_cancel _ B]
theorem RS(C:(Ao n).length=T)(N:(Ao b).length=m+1)(g:m+1<=T)(X:l.length=T+1)(M:val l=n*e)(Q:0<e):val (l.drop (T-(m+1)+1))<b*e:=by
 have A:n<BB^T:=by have:=Dr (BK n);rwa [AB,C]at this
 have B:BB^m<=b:=by
  have u:=Ds N;rw[AB]at u;have:=Db N;have I:BB^m*1<=BB^m*(Ao b).getD m 0:=Nat.mul_le_mul_left _ this;omega
 have d:T-(m+1)+1=T-m:=by omega
 rw[d]
 have I:val l=val (l.take (T-m))+BB^(T-m)*val (l.drop (T-m)):=by
  have:=GM (l.take (T-m)) (l.drop (T-m));exact ZfU
 have V:n*e<BB^T*e:=Nat.mul_lt_mul_of_pos_right A Q
 have E:BB^T*e=BB^(T-m)*(BB^m*e):=by
  rw[<-Nat.mul_assoc,<-Nat.pow_add,show T-m+m=T by omega]
 have y:BB^(T-m)*val (l.drop (T-m))<BB^(T-m)*(BB^m*e):=by omega
 have F:=Nat.lt_of_mul_lt_mul_left y;have G:BB^m*e<=b*e:=Nat.mul_le_mul_right _ B;omega
theorem Vt(C:(Ao n).length=b)(Q:T<BB):(Ao (n*T)).length<=b+1:=by
 have u:n<BB^b:=by have:=Dr (BK n);rwa [AB,C]at this
 have A:n*T<BB^(b+1):=by
  rw[Nat.pow_succ];rcases Nat.eq_zero_or_pos T with h | h
  .rw [h,Nat.mul_zero];exact Nat.mul_pos (Nat.pow_pos Cp) Cp
  .exact Nat.lt_of_lt_of_le (Nat.mul_lt_mul_of_pos_right u h) (Nat.mul_le_mul_left _ (Nat.le_of_lt Q))
 generalize n*T=z at *;rcases Nat.lt_or_ge (b+1) (Ao z).length with h | h
 .exfalso
  obtain⟨k,B⟩:∃k,(Ao z).length=k+1:=⟨(Ao z).length-1,by omega⟩;have e:=Ds B;rw[AB]at e;have I:=Db B;have V:BB^k*1<=BB^k*(Ao z).getD k 0:=Nat.mul_le_mul_left _ I;have m:BB^(b+1)<=BB^k:=Nat.pow_le_pow_right Cp Zbx;omega
 .exact h
theorem Yk(n:Nat):val (List.replicate n 0)=0:=by
 induction n with
 |zero=>rfl
 |succ n u=>simp[List.replicate_succ,val,u]
theorem Words.cellAt{b o n c:Nat}(h:Words w (.slice (some ⟨b,o,none⟩) n c) l)(K:e<l.length):w.cell? ⟨b,o+e,none⟩=some (.int .u32 (l.getD e 0:Nat)):=by
 obtain⟨A,r,B,_,_,C⟩:=h.open_;cases B;obtain⟨x,k,u,_,F⟩:=C Zbx;cases u;exact F e K
theorem ZD(b e c n L G P:Nat)(pre post u v:List Nat)(w:World)(X:pre.length=P)(x:Win w b pre u post)(M:u.length=n+1)(o:v.length=n)(p:2<=n)(h:n<=4398046511104)(B:Bt u)(A:Bt v)
  (C:∀i,i<n->w.cell? ⟨e,c+i,none⟩=some (.int .u32 (v.getD i 0:Nat))) (I:n+1<=L) (F:n<=G) (E:2147483648<=v.getD (n-1) 0) (Q:val u<BB*val v) :
  Calls Tryz.prog 311 #[.slice (some ⟨b,P,none⟩) (n+1) L,.slice (some ⟨e,c,none⟩) n G] w (UE w u v):=by
 subst X;exact Wf b e c n L G pre post u v w x M o p h B A C I F E Q
theorem UF(i z:Value)(x y:Nat)(w:World)(t:Words w i (Ao x))(E:Words w z (Ao y))(Q:x<y) :
  Calls Tryz.prog 282 #[i,z] w (Jx x y w):=by
 obtain⟨A,n,c,rfl⟩:=t.form;replace t:=Ae t;replace E:=Ae E;have g:EQ x y<0:=by unfold EQ;rw[if_pos Q];omega
 replace Q:=Ae Q;go_enter Tryz.func282,Tryz.ntmps282;go_wp2_with fail;refine(FT _ _ _ _ _ t.out E.out).mono ?_;rintro e o ⟨rfl,M⟩;replace t:=Ae (t.out.ext M);replace M:=Ae M;go_wp2;go_ret2;refine⟨_,_,_,_,_,_,rfl,?_,?_,M.out⟩
 .exact ZgJ
 .rw [Nat.mod_eq_of_lt Q.out];exact t.out
theorem SH(i z:Value)(x y:Nat)(w:World)(A:Words w i (Ao x))(E:Words w z (Ao y))(h:(Ao x).length<=4398046511104)(s:y<=x)(u:(Ao y).length=1) :
  Calls Tryz.prog 282 #[i,z] w (Jx x y w):=by
 have g:¬EQ x y<0:=by unfold EQ;rw[if_neg Zbx];split<;>omega
 obtain⟨t,M⟩:∃t,Ao y=[t]:=by
  match W:Ao y,u with
  |[t],_=>exact⟨t,rfl⟩
 have k:Hid (y=t):=by
  show y=t;rw[<-AB y,M];simp[val]
 have S:t<4294967296:=by
  have:=BK y t (by rw[M];simp);rwa [Bn]at this
 have p:0<t:=by
  have:=Db (y:=y) (n:=0) u;rw[M]at this;exact Zhq
 replace h:=Ae h;replace s:=Ae s;clear u;replace A:=Ae A;replace E:=Ae E;replace M:=Ae M;go_enter Tryz.func282,Tryz.ntmps282;go_wp2_with fail;refine(FT _ _ _ _ _ A.out E.out).mono ?_;rintro e o ⟨rfl,C⟩;have B:=Ae (A.out.ext C);have Y:=E.out.ext C;replace C:=Ae C;rw[M.out]at Y;obtain⟨N,b,rfl,O,c,n⟩:=Y.open_;obtain⟨I,K,rfl,G,Q⟩:=n ZbK;replace Q:o.cell? ⟨I,K,none⟩=some (.int .u32 (t:Nat)):=Q 0 ZbK;clear n Y;go_wp2_with fail;refine(Lv _ _ t _ B.out h.out p S).mono ?_;rintro e d ⟨m,rfl,f,F⟩;obtain⟨X,R,r,rfl⟩:=f.form;replace f:=Ae f;replace F:=Ae (C.out.trans F);have V:val (Ao x)%t<18446744073709551616:=by have:=Nat.mod_lt (val (Ao x)) p;omega
 replace V:=Ae V;clear Q;go_wp2_with fail;refine(Hf _ _ V.out).mono ?_;rintro e Z ⟨v,rfl,q,L⟩;obtain⟨j,l,a,rfl⟩:=q.form;replace f:=Ae (f.out.ext L);replace q:=Ae q;replace L:=Ae (F.out.trans L);go_wp2;go_ret2;refine⟨_,_,_,_,_,_,rfl,?_,?_,L.out⟩
 .have:=f.out;rw[AB]at this;rw[k.out];exact this
 .have:=q.out;rw[AB]at this;rw[k.out];exact this
set_option maxRecDepth 1000000 in
theorem SI(va vb:Value)(x y:Nat)(w:World)(F:Words w va (Ao x))(E:Words w vb (Ao y))(o:(Ao x).length<=4398046511103)(xh:y<=x)(A:2<=(Ao y).length) :
  Calls Tryz.prog 282 #[va,vb] w (Jx x y w):=by
 have yn:¬EQ x y<0:=by unfold EQ;rw[if_neg Zbx];split<;>omega
 have xa:=BY xh;obtain⟨n,s⟩:∃n,(Ao y).length=n+1:=⟨(Ao y).length-1,by omega⟩;obtain⟨m,xb⟩:∃m,(Ao x).length=m:=⟨_,rfl⟩;have xO:=Db s;have xP:=AK (BK y) n;generalize M:(Ao y).getD n 0=t at *;unfold BB at xP;obtain⟨D,hD⟩:∃D,D=BB/(t+1):=⟨_,rfl⟩;obtain⟨yg,yk,xm,xz⟩:=Vs s M xO hD;have ze:(4294967296:Int)/((t:Int)+1)=(D:Int):=by rw[hD,Bn];rfl
 have yj:=Vt xb yk
 have xJ:0<y:=by
  rcases Nat.eq_zero_or_pos y with h | h
  .rw [h,Br]at s;simp at s
  .exact h
 have yu:0<(Ao (x*D)).length:=by
  rcases Nat.eq_zero_or_pos (Ao (x*D)).length with h | h
  .have:=Bi.1 h
   have:=Nat.mul_pos (show 0<x by omega) yg;omega
  .exact h
 rw[xb]at o xa;rw[s]at xa A;have xG:1<=n:=by omega
 clear A;unfold BB at yk
 have yF:Hid ((Ao D).length<=4398046511104):=by
  have u:=Dr (BK D);rw[AB]at u;show _<=_;rcases Nat.lt_or_ge 2 (Ao D).length with h | h
  .exfalso
   obtain⟨k,B⟩:∃k,(Ao D).length=k+1:=⟨(Ao D).length-1,by omega⟩;have e:=Ds B;rw[AB]at e;have I:=Db B;have V:BB^k*1<=BB^k*(Ao D).getD k 0:=Nat.mul_le_mul_left _ I;have C:BB<=BB^k:=by have:=Nat.pow_le_pow_right Cp (show 1<=k by omega);rwa [Nat.pow_one]at this
   have L:=Bn;omega
  .omega
 replace M:=Ae M;replace s:=Ae s;replace xb:=Ae xb;replace xh:=Ae xh;replace hD:=Ae hD;replace xm:=Ae xm;replace xz:=Ae xz;replace yj:=Ae yj;replace yu:=Ae yu;replace xJ:=Ae xJ;have yI:=λW=>Ce (m+1) Zbx .i64 .i64 W;have xt:=λW=>Ce (m-(n+1)+1) Zbx .i64 .i64 W;have xH:((m-(n+1)+1:Nat):Int)=(m:Int)-((n:Int)+1)+1:=by omega
 rw[xH]at xt;simp only[Int.natCast_add,Int.natCast_one]at yI;clear xH;replace F:=Ae F;replace E:=Ae E;go_enter Tryz.func282,Tryz.ntmps282;go_wp2_with fail;refine(FT _ _ _ _ _ F.out E.out).mono ?_;rintro e R ⟨rfl,r⟩;have j:=F.out.ext r;have H:=E.out.ext r;replace r:=Ae r;clear F E;obtain⟨A1,Y,rfl,xl,yS,xr⟩:=j.open_;clear xr;obtain⟨A2,T,rfl,xk,yp,xp⟩:=H.open_;obtain⟨b2,o2,rfl,xj,xw⟩:=xp (by rw[s.out];omega);replace xw:R.cell? ⟨b2,o2+n,none⟩=some (.int .u32 (t:Nat)):=by have:=xw n (by rw[s.out];omega);rw[M.out]at this;exact this
 clear xp;rw[s.out]at xk H ⊢;rw[xb.out]at xl j ⊢;replace j:=Ae j;replace H:=Ae H;have yT:(((n+1:Nat):Int)==1)=false:=ZgC
 go_wp2_with fail;refine(Hf D _ Zbx).mono ?_;rintro e p ⟨vd,rfl,xK,g⟩;replace j:=Ae (j.out.ext g);replace H:=Ae (H.out.ext g);replace g:=Ae (r.out.trans g);replace xK:=Ae xK;clear r xw;go_wp2_with fail;refine(KJ _ _ _ _ _ H.out xK.out (by rw[s.out];omega) yF.out).mono ?_;rintro e w3 ⟨vv,rfl,yi,xc⟩;rw[AB,AB]at yi;replace j:=Ae (j.out.ext xc);replace xc:=Ae (g.out.trans xc);clear g xK H;obtain⟨Av,cv,rfl,xB,zd,ya⟩:=yi.open_;obtain⟨bv,ov,rfl,yd,zb⟩:=ya (by rw[xm.out];omega);rw[xm.out]at xB yi ⊢;replace yi:=Ae yi;clear ya;have sv:=Ae (BK (y*D));have xU:Hid (val (Ao (y*D))=y*D):=AB _;generalize Ao (y*D)=v at *;have yf:Hid (Blk (w3.alloc (.cells (wv (List.replicate (m+1) 0)) 335)) w3.heap.size 335 (wv (List.replicate (m+1) 0))):=Blk.new _ _ _;have xC:Hid (Ext w3 (w3.alloc (.cells (wv (List.replicate (m+1) 0)) 335))):=(Ext.refl _).alloc _;go_wp2_with fail;generalize (w3.alloc (.cells (wv (List.replicate (m+1) 0)) 335))=w4 at *;refine(Hf D _ Zbx).mono ?_;rintro e w5 ⟨vd,rfl,xK,xs⟩;replace j:=Ae (j.out.ext (xC.out.trans xs));replace yf:=Ae (yf.out.ext xs);replace xC:=Ae (xC.out.trans xs);replace xK:=Ae xK;clear xs;go_wp2_with fail;refine(KJ _ _ _ _ _ j.out xK.out (by rw[xb.out];omega) yF.out).mono ?_;rintro e w6 ⟨vu,rfl,xL,yy⟩;rw[AB,AB]at xL;replace yf:=Ae (yf.out.ext yy);replace xC:=Ae (xC.out.trans yy);clear yy xK j;obtain⟨Au,cu,rfl,xT,ye,_⟩:=xL.open_;have yO:=BK (x*D);have yM:val (Ao (x*D))=x*D:=AB _;generalize Ao (x*D)=u0 at *;obtain⟨w7,ys,xy,yh⟩:=Oo yf.out xL yu.out yj.out;obtain⟨ul,yq⟩:∃ul,ul=u0++List.replicate (m+1-u0.length) 0:=⟨_,rfl⟩;have yt:Hid (ul.length=m+1):=by have:=yj.out;rw[yq,List.length_append,List.length_replicate];show _=_;omega
 have yr:Hid (Bt ul):=λz O=>by
  rw[yq]at O;rcases List.mem_append.1 O with h | h
  .exact yO z h
  .exact BW _ z h
 have yN:Hid (val ul=x*D):=by rw[yq,FV (Yk _),yM];rfl
 rw[<-yq]at xy;have ym:Hid (Below w3.heap.size w3 w7):=⟨yh.os.trans xC.out.os,yh.tape.trans xC.out.tape,yh.output.trans xC.out.output,Nat.le_trans xC.out.size yh.size,λi K=>(yh.block i (Nat.lt_of_lt_of_le K xC.out.size) Zbx).trans (xC.out.block K)⟩;have zf:=Ae yj.out;replace ys:=Ae ys;replace xy:=Ae xy;clear yh yf xC xL yO yM yu yj yq;have zc:=xc.out.size;generalize xI:w3.heap.size=gu at *;replace xI:=Ae xI;go_upto_region 11 with(refine NT rfl _ _ _ rfl _ _ rfl rfl ys.out ?_)
 clear ys;have yP:Hid (Ext w3 w7):=by rw[<-xI.out]at ym;exact ym.out
 have yE:Hid (Blk (w7.alloc (.cells (wv (List.replicate (m-(n+1)+1) 0)) 335)) gu 335 (wv ul)):=xy.out.alloc _;have yD:Hid (Blk (w7.alloc (.cells (wv (List.replicate (m-(n+1)+1) 0)) 335)) w7.heap.size 335 (wv (List.replicate (m-(n+1)+1) 0))):=Blk.new _ _ _;have yG:Hid (Below gu w3 (w7.alloc (.cells (wv (List.replicate (m-(n+1)+1) 0)) 335))):=Below.alloc ym.out (by have:=ym.out.size;have:=xI.out;omega) _;have xN:gu<w7.heap.size:=Blk.lt xy.out;have yJ:=Ae (RS xb.out s.out xa yt.out yN.out yg);go_upto_region 13 with(fail)
 generalize (w7.alloc (.cells (wv (List.replicate (m-(n+1)+1) 0)) 335))=w8 at *;generalize w7.heap.size=gq at *;clear ym xy xt yI yP;go_loopw [13] (λi wr=>∃(k:Nat) (U Q:List Nat),k<=m-(n+1)+1/\i=.int .i64 ((k:Int)-1)/\Hid (DvRel w3 wr gu gq ul v U Q m (n+1) k)) (λi _=>(intOf i+1).toNat)
 case atStart=>
  refine⟨m-(n+1)+1,ul,List.replicate (m-(n+1)+1) 0,Nat.le_refl _,by congr 1;omega,yt.out,yr.out,yE.out,by simp,BW _,yD.out,?_,rfl,?_,yG.out⟩
  .exact ZaD
  .rw [xU.out];exact yJ.out
 case round=>
  obtain⟨k,U,Q,B,rfl,J⟩:=hrel;clear yE yD yG yJ;by_cases xi:k=0
  .subst xi
   have xS:Hid (Words wr (.slice (some ⟨gq,0,none⟩) (m-(n+1)+1) (m-(n+1)+1)) Q):=by
    have:=Ck (c:=m-(n+1)+1) J.out.2.2.2.2.2.1 J.out.2.2.2.2.1 Zda Zbx;rw[J.out.2.2.2.1]at this;exact this
   have xL:Hid (Words wr (.slice (some ⟨gu,0,none⟩) (m+1) (m+1)) U):=by
    exact ZgF
   have yR:Hid ((Ao (val U)).length<=4398046511104):=by
    have u:=Gw U;rw[AW J.out.2.1,J.out.1]at u;show _<=_;omega
   have xd:Hid (x/y=val Q/\val U/D=x%y):=by
    have u:=J.out.2.2.2.2.2.2.1;have A:=J.out.2.2.2.2.2.2.2.2.1;simp only[List.drop_zero]at u A;rw[yN.out,xU.out]at u;rw[xU.out]at A;exact Zn yg xJ.out u A
   have xv:Hid (Ext w wr):=xc.out.trans (by have:=J.out.2.2.2.2.2.2.2.2.2;rw[<-xI.out]at this;exact this);go_wp2_with fail;refine(EJ _ _ _ xL.out).mono ?_;rintro e w9 ⟨v9,rfl,xR,yb⟩;rw[AW J.out.2.1]at xR;replace xS:=Ae (xS.out.ext yb);replace xv:=Ae (xv.out.trans yb);replace xR:=Ae xR;clear yb xL;go_wp2_with fail;refine(Lv _ _ D _ xR.out yR.out yg yk).mono ?_;rintro e yv ⟨v10,rfl,xA,yw⟩;rw[AB,xd.out.2]at xA;obtain⟨yV,zg,yX,rfl⟩:=xA.form;replace xS:=Ae (xS.out.ext yw);replace xv:=Ae (xv.out.trans yw);replace xA:=Ae xA;clear yw xR;go_wp2_with fail;refine(EJ _ _ _ xS.out).mono ?_;rintro e yC ⟨v11,rfl,xQ,yx⟩;rw[AW J.out.2.2.2.2.1,<-xd.out.1]at xQ;obtain⟨yW,zh,yY,rfl⟩:=xQ.form;replace xA:=Ae (xA.out.ext yx);replace xv:=Ae (xv.out.trans yx);replace xQ:=Ae xQ;clear yx xS;go_wp2;go_ret2;exact⟨_,_,_,_,_,_,rfl,xQ.out,xA.out,xv.out⟩
  .obtain ⟨k, rfl⟩:∃q, k=q+1:=⟨k-1, by omega⟩
   have xf:((k+1:Nat):Int)-1=k:=by omega
   rw[xf];clear xf;obtain⟨X,post,xr,xp,xV,xW,xX,xY,xZ,xD⟩:=J.out.window Zbx xm.out sv.out;replace xr:=Ae xr;replace xp:=Ae xp;replace xV:=Ae xV;replace xW:=Ae xW;replace xX:=Ae xX;replace xY:=Ae xY;replace xZ:=Ae xZ;replace xD:=Ae xD
   have xF:Hid (∀wz,Only gu wr wz->Words wz (.slice (some ⟨bv,ov,none⟩) (n+1) cv) v):=Ae λwz hO=>yi.out.old λi K=>by
    have yQ:i<gu:=by rw[<-xI.out];exact K
    exact(hO.block i (by have:=Blk.lt J.out.2.2.1;omega) Zbx).trans (J.out.2.2.2.2.2.2.2.2.2.block i yQ)
   have xu:Hid (∀i,i<n+1->wr.cell? ⟨bv,ov+i,none⟩=some (.int .u32 (v.getD i 0:Nat))):=Ae λi K=>(xF.out wr (Only.refl _ _)).cellAt (by rw[xm.out];exact K);go_wp2_with fail;rw[show k+(n+1)+1-k=n+1+1 by omega];refine(ZD gu bv ov (n+1) _ _ k (U.take k) post X v wr xD.out xV.out xr.out xm.out Zbx Zbx xp.out sv.out xu.out Zbx xB xz.out xW.out).mono ?_;rintro e w9 ⟨q,rfl,N,yA,yB,yb⟩;have xn:q<4294967296:=by rwa [Bn]at N
   have yz:Hid (Only gu wr w9):=(Only.refl _ _).ext yb;have xR:=Ae (xV.out.ext yb);replace yA:=Ae yA;replace yB:=Ae yB;replace N:=Ae N;clear xu yb;go_wp2_with fail;refine(UB gu (n+1+1) _ _ (U.take k) post X v q k w9 xD.out xR.out xr.out (by rw[xm.out];omega) Zbx xp.out sv.out (λwz hO=>xF.out wz (yz.out.trans hO)) Zbx N.out).mono ?_;rintro e yv ⟨X1,rfl,P,b,xA,yc,xo⟩;replace yc:=Ae (yz.out.trans yc);rw[xr.out]at P xo;clear yz xR;have yU:(q:Int)%4294967296=(q:Int):=by omega
   by_cases xM:val X<q*val v
   .have yo:decide (val X<q*val v)=true:=by simpa using xM
    rw[if_pos xM,Nat.mul_one]at xo
    have xf:1<=q:=by
     rcases Nat.eq_zero_or_pos q with h | h
     .rw [h,Nat.zero_mul]at xM;omega
     .exact h
    rw[yo];replace P:=Ae P;replace b:=Ae b;replace xA:=Ae xA;replace xo:=Ae xo;replace xM:=Ae xM;clear yo yU;go_wp2_with fail;refine(SF gu (n+1+1) _ _ (U.take k) post X1 v k yv xD.out xA.out P.out (by rw[xm.out];omega) Zbx b.out sv.out (λwz hO=>xF.out wz (yc.out.trans hO)) Zbx).mono ?_;rintro e yC ⟨X2,c,rfl,l,s2,xQ,yl,xx,G⟩;replace yl:=Ae (yc.out.trans yl);rw[P.out]at l xx
    have yL:Hid (val X2+(q-1)*val v=val X/\val X2<val v):=by
     have xj:=Dr s2;rw[l]at xj
     have d:(q-1)*val v+val v=q*val v:=by
      obtain⟨a,rfl⟩:∃a,q=a+1:=⟨q-1,by omega⟩;rw[Nat.add_sub_cancel,Nat.add_mul,Nat.one_mul]
     have u:=xo.out;have I:=xM.out;have V:=yB.out
     have xl:c=1:=by
      rcases Nat.eq_zero_or_pos c with h | h
      .subst h;omega
      .omega
     subst xl;rw[Nat.mul_one]at xx;exact⟨by omega,by omega⟩
    have xE:Blk yC gq 335 (wv Q):=(yl.out.block _ (Blk.lt J.out.2.2.2.2.2.1) Zbx).trans J.out.2.2.2.2.2.1;have yK:yC.cell? ⟨gq,k,none⟩=some (.int .u32 (Q.getD k 0:Nat)):=by rw[xE.cell,Dn Zda]
    have xe:=xE.frozen k;have xg:=Ae (J.out.step Zbx yt.out xr.out xY.out xD.out xX.out xZ.out l s2 xQ yl.out (q:=q-1) Zcr yL.out.1 yL.out.2 xN (e:=((q-1:Nat):Int)) rfl);obtain⟨Z,hZ⟩:∃Z,q=Z+1:=⟨q-1,by omega⟩;have yZ:((q:Int)-1)=(Z:Int):=by omega
    have za:(Z:Int)%4294967296=(Z:Int):=by omega
    rw[show q-1=Z by omega]at xg;clear l s2 xQ yl xx G xE;subst hZ;exact Zgu
   .have yo:decide (val X<q*val v)=false:=by simpa using xM
    rw[if_neg xM,Nat.mul_zero,Nat.add_zero]at xo;rw[yo]
    have yH:val X1<val v:=by
     have xq:0<val v:=by have:=xW.out;rcases Nat.eq_zero_or_pos (val v)with h | h;rw[h]at this;omega;exact h
     have S:val X<(val X/val v+1)*val v:=by
      rw[Nat.mul_comm];exact Nat.lt_mul_div_succ (val X) xq
     have f:(val X/val v+1)*val v<=(q+1)*val v:=Nat.mul_le_mul_right _ (by have:=yA.out;omega);rw[Nat.add_mul q,Nat.one_mul]at f;omega
    have xE:Blk yv gq 335 (wv Q):=(yc.out.block _ (Blk.lt J.out.2.2.2.2.2.1) Zbx).trans J.out.2.2.2.2.2.1;have yK:yv.cell? ⟨gq,k,none⟩=some (.int .u32 (Q.getD k 0:Nat)):=by rw[xE.cell,Dn Zda]
    have xe:=xE.frozen k;have xg:=Ae (J.out.step Zbx yt.out xr.out xY.out xD.out xX.out xZ.out P b xA yc.out N.out xo yH xN (e:=((q:Nat):Int)) rfl);clear P b xA yc xo xE yH xM yo;exact Zgu
theorem IK(i z:Value)(x y:Nat)(w:World)(t:Words w i (Ao x))(E:Words w z (Ao y))(B:(Ao x).length<=4398046511103)(g:y≠0) :
  Calls Tryz.prog 282 #[i,z] w (Jx x y w):=by
 rcases Nat.lt_or_ge x y with h | h
 .exact UF i z x y w t E h
 .by_cases u:(Ao y).length=1
  .exact SH i z x y w t E Zbx h u
  .have A:(Ao y).length≠0:=λe=>g (Bi.1 e)
   exact SI i z x y w t E B h Zbx
theorem ZA(b:Bool)(A:Option Addr)(n c:Nat)(z:Int)(w:World)(h:IsInt w (.bool b) (.slice A n c) z) :
  Calls Tryz.prog 238 #[.agg #[.bool b,.slice A n c]] w λe O=>e=.returned (.int .i64 z.sign)/\Ext w O:=by
 obtain⟨u,B⟩:=h;have v:=B.len;clear B;injection u with u
 cases b with
 |true=>
  have E:z<0:=Zhe
  clear u v;go_enter Tryz.func238,Tryz.ntmps238;go_wp2;go_ret;exact⟨by rw[Int.sign_eq_neg_one_of_neg E];rfl,(Ext.refl _).alloc _⟩
 |false=>
  have E:0<=z:=by
   have:¬z<0:=Zhe
   omega
  clear u;by_cases g:z=0
  .subst g
   obtain rfl:n=0:=by rw[v];show(Ao 0).length=0;rw[Br];rfl
   clear v;go_enter Tryz.func238,Tryz.ntmps238;go_wp2;go_ret;exact⟨rfl,(Ext.refl _).alloc _⟩
  .have f:n≠0:=by
    rw[v];intro e;have:=Bi.1 e;omega
   have C:Hid (z.sign=1):=Ae (Int.sign_eq_one_of_pos Zbx);clear v g E;have o:¬(n:Int)<1:=by omega
   have i:1<=n:=by omega
   by_cases u:n=1
   .subst u
    go_enter Tryz.func238,Tryz.ntmps238;go_wp2;go_ret;exact⟨by rw[C.out];rfl,(Ext.refl _).alloc _⟩
   .have F:1<n:=by omega
    have G:(1:Int)<n:=by omega
    go_enter Tryz.func238,Tryz.ntmps238;go_wp2;go_ret;exact⟨by rw[C.out];exact Xw (k:=.i64) (a:=min (n:Int) 1) (b:=1) Zbx,(Ext.refl _).alloc _⟩
theorem PE(z:Int)(w:World)(g:0<=z)(s:z<18446744073709551616) :
  Calls Tryz.prog 240 #[.int .u64 z] w λe O=>∃R,e=.returned R/\Words O R (Ao z.toNat)/\Ext w O:=by
 obtain⟨m,rfl⟩:=Int.eq_ofNat_of_zero_le g;rw[Int.toNat_natCast];exact Hf m w Zbx
theorem A3g(n:Int)(w:World)(g:-9223372036854775808<=n)(u:n<=9223372036854775807) :
  Calls Tryz.prog 141 #[.int .i64 n] w λe O=>Jw n w e O:=by
 by_cases h:n<0
 .have W:decide (n<0)=true:=by simpa using h
  go_enter Tryz.func141,Tryz.ntmps141;go_wp2_with fail;rw[show -(n+1)+1=-n by omega];refine(PE _ _ Zbx Zbx).mono ?_;rintro e a ⟨R,rfl,x,X⟩;go_wp2_with fail;refine(JU _ _ _ _ x).mono ?_;rintro e C ⟨p,A,s,q,rfl,Z,z⟩;replace z:=X.trans z;obtain⟨F,L⟩:=z.cells;replace Z:=Ae Z;replace z:=Ae z;clear X x;go_wp2;refine bodyPost_ret (v:=.agg #[.bool p,.slice A s q]) Zel rfl ⟨_,_,_,_,rfl,?_,?_⟩
  .exact Zar
  .exact Zhg
 .have W:decide (n<0)=false:=by simpa using h
  go_enter Tryz.func141,Tryz.ntmps141;go_wp2_with fail;refine(PE _ _ Zbx Zbx).mono ?_;rintro e a ⟨R,rfl,x,X⟩;go_wp2_with fail;refine(JU _ _ _ _ x).mono ?_;rintro e C ⟨p,A,s,q,rfl,Z,z⟩;replace z:=X.trans z;obtain⟨F,L⟩:=z.cells;replace Z:=Ae Z;replace z:=Ae z;clear X x;go_wp2;refine bodyPost_ret (v:=.agg #[.bool p,.slice A s q]) Zel rfl ⟨_,_,_,_,rfl,?_,?_⟩
  .exact Zas
  .exact Zhg
def A1u(l:List Nat)(w:World)(e:Ending)(O:World):Prop:=∃R,e=.returned R/\Words O R l/\Ext w O
theorem UG(i W:Value)(x y:Nat)(w:World)(t:Words w i (Ao x))(E:Words w W (Ao y))(B:(Ao x).length<=4398046511103)(O:(Ao y).length<=4398046511103) :
  Calls Tryz.prog 283 #[i,W] w (A1u (Ao (Nat.gcd x y)) w):=by
 obtain⟨A,n,c,rfl⟩:=t.form;obtain⟨V,u,r,rfl⟩:=E.form;generalize Z:Nat.gcd x y=G at *;replace Z:=Ae Z;replace t:=Ae t;replace E:=Ae E;replace B:=Ae B;replace O:=Ae O;go_enter Tryz.func283,Tryz.ntmps283;go_wp2;go_loopg [0,1] (y) (λk X Y wr=>A1W w G 4398046511103 k X Y wr)
 case atStart=>exact⟨_,_,_,_,_,_,_,_,rfl,rfl,t.out,E.out,Z.out,rfl,B.out,O.out,Ext.refl _⟩
 case round=>
  obtain⟨p,q,J,A2,m,C,d,S,rfl,rfl,K,R,T,rfl,P,L,o⟩:=hrel;clear t E;have xf:=K.len;have xd:=R.len;by_cases xb:q=0
  .subst xb
   obtain rfl:d=0:=by rw[xd,Br];rfl
   have F:Hid (p=G):=by show p=G;rw[<-T];simp
   replace K:=Ae K;replace o:=Ae o;clear xf xd T R P L;go_wp2;go_ret;exact⟨_,rfl,by rw[<-F.out];exact K.out,o.out⟩
  .have xe:0<d:=by
    rcases Nat.eq_zero_or_pos d with h | h
    .exact absurd (Bi.1 (by rw[<-xd];exact h)) xb
    .exact h
   have xc:decide ((0:Int)<d)=true:=by simp;omega
   by_cases b:m<=2/\d<=2
   .obtain ⟨v,U⟩:=b
    have s:decide ((m:Int)<=2)=true:=by simp;omega
    have j:decide ((d:Int)<=2)=true:=by simp;omega
    have xj:p<18446744073709551616:=by rw[<-Yg];exact Ez Zbx
    have l:q<18446744073709551616:=by rw[<-Yg];exact Ez Zbx
    have xh:=Ae (show(Ao p).length<=2 by omega);have xi:=Ae (show(Ao q).length<=2 by omega);replace K:=Ae K;replace R:=Ae R;replace T:=Ae T;replace o:=Ae o;replace xf:=Ae xf;replace xd:=Ae xd;clear P L;go_wp2_with fail;refine(Nj _ _ _ K.out xh.out).mono ?_;rintro e a ⟨rfl,rfl⟩;rw[AB];go_wp2_with fail;refine(Nj _ _ _ R.out xi.out).mono ?_;rintro e a ⟨rfl,rfl⟩;rw[AB];go_wp2_with fail;refine(UC p q _ xj l).mono ?_;rintro e a ⟨rfl,rfl⟩;rw[T.out]
    have xk:G<18446744073709551616:=by
     rw[<-T.out];exact Nat.lt_of_le_of_lt (Nat.gcd_le_right _ (Nat.pos_of_ne_zero xb)) l
    go_wp2_with fail;refine(Hf G _ xk).mono ?_;rintro e M ⟨v2,rfl,I,z⟩;replace I:=Ae I;replace z:=Ae (o.out.trans z);go_wp2;go_ret;exact⟨_,rfl,I.out,z.out⟩
   .have xg:Hid ((Ao (p%q)).length<=4398046511103):=Dd (Nat.le_of_lt (Nat.mod_lt p (Nat.pos_of_ne_zero xb))) L
    have Q:p%q<q:=Nat.mod_lt _ (Nat.pos_of_ne_zero xb);have H:Hid (Nat.gcd q (p%q)=G):=by rw[<-T,Nat.gcd_comm p q,Nat.gcd_rec q p,Nat.gcd_comm];rfl
    replace K:=Ae K;replace R:=Ae R;replace T:=Ae T;replace o:=Ae o;replace P:=Ae P;replace L:=Ae L;replace xf:=Ae xf;replace xd:=Ae xd;replace Q:=Ae Q;by_cases v:m<=2
    .have U:¬d<=2:=λh=>b ⟨v,h⟩
     have s:decide ((m:Int)<=2)=true:=by simp;omega
     have j:decide ((d:Int)<=2)=false:=by simp;omega
     replace b:=Ae b;go_wp2_with fail;refine(IK _ _ p q _ K.out R.out P.out xb).mono ?_;rintro e a ⟨A3,A4,n3,g,n4,c4,rfl,xa,f,N⟩;replace R:=Ae (R.out.ext N);replace N:=Ae (o.out.trans N);replace f:=Ae f;clear K o xa;go_wp2;go_roundg (p%q)
     case measure=>exact Q.out
     case rel=>exact⟨_,_,_,_,_,_,_,_,rfl,rfl,R.out,f.out,H.out,rfl,L.out,xg.out,N.out⟩
    .have s:decide ((m:Int)<=2)=false:=by simp; omega
     replace b:=Ae b;go_wp2_with fail;refine(IK _ _ p q _ K.out R.out P.out xb).mono ?_;rintro e a ⟨A3,A4,n3,g,n4,c4,rfl,xa,f,N⟩;replace R:=Ae (R.out.ext N);replace N:=Ae (o.out.trans N);replace f:=Ae f;clear K o xa;go_wp2;go_roundg (p%q)
     case measure=>exact Q.out
     case rel=>exact⟨_,_,_,_,_,_,_,_,rfl,rfl,R.out,f.out,H.out,rfl,L.out,xg.out,N.out⟩
theorem A1s(b C:Bool)(A k:Option Addr)(n c u r:Nat)(x y:Int)(w:World)(h:IsInt w (.bool b) (.slice A n c) x)(d:IsInt w (.bool C) (.slice k u r) y)(B:(Ao x.natAbs).length<=4398046511103)(X:(Ao y.natAbs).length<=4398046511103) :
  Calls Tryz.prog 226 #[.agg #[.bool b,.slice A n c],.agg #[.bool C,.slice k u r]] w (Jw (Nat.gcd x.natAbs y.natAbs) w):=by
 replace h:=Ae h;replace d:=Ae d;replace B:=Ae B;replace X:=Ae X;go_enter Tryz.func226,Tryz.ntmps226;go_wp2_with fail;refine(UG _ _ _ _ _ (h.out.2.ext ((((Ext.refl _).alloc _).alloc _).alloc _)) (d.out.2.ext ((((Ext.refl _).alloc _).alloc _).alloc _)) B.out X.out).mono ?_;rintro e a ⟨Z,rfl,F,K⟩;obtain⟨O,m,E,rfl⟩:=F.form;replace F:=Ae F;replace K:=Ae K;go_wp2_with fail;refine(JU false _ _ _ F.out).mono ?_;rintro e G ⟨N,Q,q,g,rfl,U,z⟩;rw[AB,show Ir false (Nat.gcd x.natAbs y.natAbs)=((Nat.gcd x.natAbs y.natAbs:Nat):Int)from rfl]at U;replace z:=Ae (K.out.trans z);replace U:=Ae U;obtain⟨I,L⟩:=z.out.cells;go_wp2;refine bodyPost_ret (v:=.agg #[.bool N,.slice Q q g]) (by simp[results,Tryz.results226,go_sem,I]) rfl ⟨_,_,_,_,rfl,?_,?_⟩
 .have M:Ty G (w.heap.size+2) 109:=(EU _ _ ZbK).ext z.out
  exact(U.out.set M ZbA _).set (M.set _ _) ZbA _
 .exact (((((Ext.refl _).alloc _).alloc _).alloc _).trans z.out |>.set Zcm _).set Zcm _
def Mj(x y:Int):Int:=if y<0 then -(Nat.gcd x.natAbs y.natAbs:Int)else(Nat.gcd x.natAbs y.natAbs:Int)
theorem A2M{x y:Int}(N:y≠0):Mj x y≠0:=by
 have:Nat.gcd x.natAbs y.natAbs≠0:=λh=>by have:=(Nat.gcd_eq_zero_iff.1 h).2;omega
 unfold Mj;split<;>omega
theorem VH{x y:Int}(N:y≠0):(Rat.divInt x y).num=x/Mj x y/\((Rat.divInt x y).den:Int)=y/Mj x y:=by
 unfold Mj;by_cases h:y<0
 .rw [if_pos h,<-Rat.neg_divInt_neg]
  have u:=Da (x:=-x) (y:=-y) Zbx;rw[Int.natAbs_neg,Int.natAbs_neg]at u;have v:((Nat.gcd x.natAbs y.natAbs:Nat):Int)∣x:=Int.ofNat_dvd_left.2 (Nat.gcd_dvd_left _ _);have t:((Nat.gcd x.natAbs y.natAbs:Nat):Int)∣y:=Int.ofNat_dvd_left.2 (Nat.gcd_dvd_right _ _);rw[u.1,u.2,Int.ediv_neg,Int.ediv_neg,Int.neg_ediv_of_dvd v,Int.neg_ediv_of_dvd t];exact⟨rfl,rfl⟩
 .rw [if_neg h]
  exact Da Zbx
theorem VF(p q:Rat):p*q=Rat.divInt (p.num*q.num) ((p.den:Int)*q.den):=by
 rw[Rat.mul_def,Rat.normalize_eq_mkRat];have:((p.den:Int)*q.den)=((p.den*q.den:Nat):Int):=by simp
 rw[this];rfl
end Go.Proofs.YtcikkglcoeedlaaGreat
