/- Part 6 of the proof of claimClashes_holds. No condition. -/
import Derived.Deep.CutBlock
import Derived.Deep.DeepCutAuto
import Derived.Test.YtcikkglcoeedlaaGreatCx1
import Derived.Test.YtcikkglcoeedlaaGreatCx2
set_option linter.unusedSimpArgs false
set_option linter.unusedVariables false
set_option maxRecDepth 100000
set_option maxHeartbeats 2000000
namespace Go.Proofs.YtcikkglcoeedlaaGreat
variable{l f:List Nat}{n:Nat}{w h uA:World}
section
open Go.RowKit
theorem Do{k:Nat}(h:k<l.length):val (l.drop k)=l.getD k 0+BB*val (l.drop (k+1)):=by
 rw[List.drop_eq_getElem_cons h];simp[val,h]
theorem Jp{k x:Nat}:(l.set k x).drop (k+1)=l.drop (k+1):=by
 rw[List.drop_set];simp
theorem JJ{r x:Nat}(Y:r<4294967296)(C:x<4294967296):bits .or .u64 ((r:Int)*4294967296) (x:Int)=(r:Int)*4294967296+x:=by
 have h:=OF (q:=x) (x:=r) C Y
 have A:bits .or .u64 ((r:Int)*4294967296) (x:Int)=bits .or .u64 (x:Int) ((r:Int)*4294967296):=by
  show IntKind.u64.wrap ((BitVec.ofInt 64 ((r:Int)*4294967296) ||| BitVec.ofInt 64 (x:Int)).toNat:Int)=IntKind.u64.wrap ((BitVec.ofInt 64 (x:Int) ||| BitVec.ofInt 64 ((r:Int)*4294967296)).toNat:Int);rw[BitVec.or_comm]
 rw[A,h];omega
def DsRel(w wr:World)(O q:List Nat)(d n k r:Nat):Prop:=
 q.length=n/\Bt q/\Blk wr w.heap.size 335 (wv q)/\val (O.drop k)=val (q.drop k)*d+r/\Ext w wr
theorem DsRel.step{O q:List Nat}{d n k r x:Nat}(A:DsRel w h O q d n (k+1) r)(E:k<n)(K:O.length=n)(F:O.getD k 0=x)(W:0<d)(Y:r<d)(L:d<4294967296)(N:x<4294967296){u:Int}(M:u=((r*4294967296+x)/d:Nat)) :
  DsRel w (h.setCell ⟨w.heap.size,k,none⟩ (.int .u32 u)) O (q.set k ((r*4294967296+x)/d)) d n k ((r*4294967296+x)%d):=by
 obtain⟨B,C,I,V,m⟩:=A
 have G:(r*4294967296+x)/d<BB:=by
  rw[Bn];refine Nat.div_lt_of_lt_mul ?_;exact Zgo
 refine⟨by simpa using B,CN C k G,by rw[M,<-HJ];exact I.set k _,?_,m.set (Nat.le_refl _) _⟩;rw[Do (l:=O) (k:=k) Zbx,Do (l:=q.set k _) (k:=k) (by rw[List.length_set];omega),Jp,BS Zbx,F,V,<-Bn];have e:=Nat.div_add_mod (r*BB+x) d;rw[Nat.add_mul,Nat.mul_add,Nat.mul_assoc BB];have v:d*((r*BB+x)/d)=(r*BB+x)/d*d:=Nat.mul_comm _ _;have U:BB*r=r*BB:=Nat.mul_comm _ _;omega
theorem VO{r x d:Nat}(Y:r<d)(C:x<4294967296)(W:d<4294967296) :
  ((r:Int)*4294967296+x)/d%4294967296=((r*4294967296+x)/d:Nat)/\((r:Int)*4294967296+x)%d=((r*4294967296+x)%d:Nat):=by
 have e:(r:Int)*4294967296+x=((r*4294967296+x:Nat):Int):=by omega
 rw[e,<-Int.natCast_ediv,<-Int.natCast_emod]
 have E:(r*4294967296+x)/d<4294967296:=by
  refine Nat.div_lt_of_lt_mul ?_;exact Zgo
 generalize (r*4294967296+x)/d=q at *;exact⟨by omega,rfl⟩
theorem Nv(N:Value)(K:List Nat)(d:Nat)(w:World)(F:Words w N K)(h:K.length<=4398046511104)(j:0<d)(l:d<4294967296) :
  Calls Tryz.prog 325 #[N,.int .u64 d] w λe O=>∃R,e=.returned (.tuple #[R,.int .u64 (val K%d:Nat)])/\Words O R (Ao (val K/d))/\Ext w O:=by
 obtain⟨A,c,rfl,G,m,C⟩:=F.open_;have g:=Ae F.small;clear F;have S:=Ae C;clear C;obtain⟨n,s⟩:∃n,n=K.length:=⟨_,rfl⟩;rw[<-s]at G h ⊢;replace s:=Ae s;have T:=λW=>Ce n Zbx .i64 .i64 W;go_enter Tryz.func325,Tryz.ntmps325;go_wp2;go_loopw [7,8] (λt i wr=>∃(k r:Nat) (q:List Nat),k<=n/\i=.int .i64 ((k:Int)-1)/\t=.int .u64 r/\r<d/\Hid (DsRel w wr K q d n k r)) (λ_ i _=>(intOf i+1).toNat)
 case atStart => exact Zax
 case round=>
  obtain⟨k,r,q,B,rfl,rfl,Y,J⟩:=hrel;by_cases z:k=0
  .subst z
   have L:Hid (Words wr (.slice (some ⟨w.heap.size,0,none⟩) n n) q):=by
    exact Zfy
   have Z:Hid (val K/d=val q/\val K%d=r):=Zay
   go_wp2_with (go_at_call 287;refine(Dt _ _ _ L.out).mono ?_;rintro e O ⟨R,rfl,Q,X⟩);go_ret2;refine⟨R,by rw[Z.out.2];rfl,?_,J.out.2.2.2.2.trans X⟩;rw[AW J.out.2.1,<-Z.out.1]at Q;exact Q
  .obtain ⟨k, rfl⟩:∃q, k=q+1:=⟨k-1, by omega⟩
   obtain⟨b,o,rfl,E,M⟩:=S.out Zcl;replace M:=(J.out.2.2.2.2.cell (p:=⟨b,o+k,none⟩) E).trans (M k Zcl);have V:=AK g.out k;have I:wr.cell? ⟨w.heap.size,k,none⟩=some (.int .u32 (q.getD k 0:Nat)):=Zhp
   have a:=J.out.2.2.1.frozen k;generalize C:K.getD k 0=x at *;replace C:=Ae C;unfold BB at V;have f:((k+1:Nat):Int)-1=k:=by omega
   rw[f];have p:=JJ (r:=r) (x:=x) Zbx V;exact Zfg
def ShlRel(w wr:World)(O r:List Nat)(s n k L:Nat):Prop:=
 r.length=n+1/\Bt r/\Blk wr w.heap.size 335 (wv r)/\val (r.take k)+BB^k*L=2^s*val (O.take k)/\Ext w wr
theorem Tz{s:Nat}(b:s<32):2^s<=2147483648:=by
 have:2^s<=2^31:=Nat.pow_le_pow_right Zbx Zbx;exact Zhq
theorem A2l{x s L:Nat}(C:x<4294967296)(b:s<32)(G:L<2^s):bits .or .u64 (IntKind.u64.wrap ((x:Int)*2^s)) (L:Int)=((x*2^s+L:Nat):Int):=by
 have F:=Tz b;have Q:x*2^s<=4294967296*2147483648:=Nat.mul_le_mul Zbx F;have d:(x:Int)*2^s=((x*2^s:Nat):Int):=by simp[Int.natCast_mul,Int.natCast_pow]
 have v:IntKind.u64.wrap ((x:Int)*2^s)=((x*2^s:Nat):Int):=by rw[d,IntKind.wrap_u64];omega
 have A:(x*2^s) ||| L=x*2^s+L:=by
  have:=Nat.shiftLeft_add_eq_or_of_lt G x;rw[Nat.shiftLeft_eq]at this;omega
 rw[v,u64_or_nat _ _ Zbx Zbx,A]
theorem ShlRel.step{Q r:List Nat}{s n k N x:Nat}(A:ShlRel w h Q r s n k N)(E:k<n)(F:Q.getD k 0=x)(d:x<4294967296)(b:s<32)(I:N<2^s){u z:Int}(O:u=((x*2^s+N)%BB:Nat))(M:z=((x*2^s+N)/BB:Nat)) :
  ∃(S R:Nat) (c:List Nat),S<=n/\Value.int .i64 ((k:Int)+1)=.int .i64 S/\Value.int .u64 z=.int .u64 R/\R<4294967296/\Hid (R<2^s)/\Hid (ShlRel w (h.setCell ⟨w.heap.size,k,none⟩ (.int .u32 u)) Q c s n S R):=by
 obtain⟨B,C,K,V,m⟩:=A;have G:=Tz b
 have L:(x*2^s+N)/BB<2^s:=by
  refine Nat.div_lt_of_lt_mul ?_;rw[Bn];have:(x+1)*2^s<=4294967296*2^s:=Nat.mul_le_mul_right _ d;rw[Nat.add_mul,Nat.one_mul]at this;omega
 refine⟨k+1,(x*2^s+N)/BB,r.set k ((x*2^s+N)%BB),E,by simp,by rw[M],by omega,L,by simpa using B,CN C k (Nat.mod_lt _ Cp),by rw[O,<-HJ];exact K.set k _,?_,m.set (Nat.le_refl _) _⟩;rw[AO,CQ,BS Zbx,AO Q,F,Nat.mul_add];have e:=Nat.mod_add_div (x*2^s+N) BB
 have v:BB^k*((x*2^s+N)%BB)+BB^(k+1)*((x*2^s+N)/BB)=BB^k*(x*2^s+N):=by
  rw[Nat.pow_succ,Nat.mul_assoc,<-Nat.mul_add,e]
 have U:BB^k*(x*2^s+N)=2^s*(BB^k*x)+BB^k*N:=by
  rw[Nat.mul_add,<-Nat.mul_assoc,Nat.mul_comm (BB^k*x)]
 omega
theorem ShlRel.close{O r:List Nat}{s n L:Nat}(u:ShlRel w h O r s n n L)(C:O.length=n)(G:L<4294967296) :
  (r.set n L).length=n+1/\Bt (r.set n L)/\Blk (h.setCell ⟨w.heap.size,n,none⟩ (.int .u32 (L:Int))) w.heap.size 335 (wv (r.set n L))/\val (r.set n L)=2^s*val O/\Ext w (h.setCell ⟨w.heap.size,n,none⟩ (.int .u32 (L:Int))):=by
 obtain⟨A,B,I,V,m⟩:=u;have z:O.take n=O:=List.take_of_length_le Zbx;rw[z]at V;have H:(r.set n L).take (n+1)=r.set n L:=List.take_of_length_le ZgC;refine⟨by simpa using A,CN B n (by rw[Bn];exact G),by rw[<-HJ];exact I.set n _,?_,m.set (Nat.le_refl _) _⟩;rw[<-H,AO,CQ,BS Zbx,V]
theorem Ko(N:Value)(I:List Nat)(s:Nat)(w:World)(t:Words w N I)(h:I.length<=4398046511104)(u:s<32) :
  Calls Tryz.prog 327 #[N,.int .i64 s] w λe O=>∃(g:Nat) (r:List Nat),e=.returned (.slice (some ⟨g,0,none⟩) (I.length+1) (I.length+1))/\r.length=I.length+1/\Bt r/\w.heap.size<=g/\Blk O g 335 (wv r)/\val r=2^s*val I/\Ext w O:=by
 obtain⟨A,c,rfl,G,a,C⟩:=t.open_;have Y:=Ae t.small;clear t;have R:=Ae C;clear C;obtain⟨n,K⟩:∃n,n=I.length:=⟨_,rfl⟩;rw[<-K]at G h ⊢;replace K:=Ae K;have T:=λW=>Ce (n+1) Zbx .i64 .i64 W;simp only[Int.natCast_add,Int.natCast_one]at T;go_enter Tryz.func327,Tryz.ntmps327;go_wp2;go_loopw [6,15] (λX i wr=>∃(k L:Nat) (r:List Nat),k<=n/\i=.int .i64 k/\X=.int .u64 L/\L<4294967296/\Hid (L<2^s)/\Hid (ShlRel w wr I r s n k L)) (λ_ i _=>n-(intOf i).toNat)
 case atStart=>exact⟨0,0,List.replicate (n+1) 0,Nat.zero_le _,rfl,rfl,by omega,Nat.two_pow_pos s,⟨by simp,BW _,Blk.new _ _ _,by simp[val],(Ext.refl _).alloc _⟩⟩
 case round=>
  obtain⟨k,L,r,B,rfl,rfl,m,Z,J⟩:=hrel;by_cases Q:k<n
  .obtain ⟨b, o, rfl, E, M⟩:=R.out (by rw [<-K.out]; omega)
   replace M:=(J.out.2.2.2.2.cell (p:=⟨b,o+k,none⟩) E).trans (M k (by rw[<-K.out];omega));have d:=AK Y.out k;have F:wr.cell? ⟨w.heap.size,k,none⟩=some (.int .u32 (r.getD k 0:Nat)):=Zhp
   have V:=J.out.2.2.1.frozen k;generalize C:I.getD k 0=x at *;replace C:=Ae C;unfold BB at d;have U:=A2l d u Z.out;replace U:=Ae U;go_wp2;rw[U.out];exact⟨J.out.step Q C.out d u Z.out Zcr Zcr,by simp[intOf];omega⟩
  .obtain rfl:k=n:=by omega
   have F:wr.cell? ⟨w.heap.size,k,none⟩=some (.int .u32 (r.getD k 0:Nat)):=Zhp
   have V:=J.out.2.2.1.frozen k;have S:=Ae (J.out.close K.out.symm m);go_wp2;go_ret;exact⟨w.heap.size,_,rfl,S.out.1,S.out.2.1,Nat.le_refl _,S.out.2.2.1,S.out.2.2.2.1,S.out.2.2.2.2⟩
theorem A3d{t s:Nat}(M:t<18446744073709551616)(b:s<32):bits .and .u64 (t:Int) ((2^s-1:Nat):Int)=((t%2^s:Nat):Int):=by
 have F:=Tz b;rw[u64_and_nat _ _ M Zbx,Nat.and_two_pow_sub_one_eq_mod]
theorem A2k{r x s:Nat}(Y:r<2^s)(C:x<4294967296)(b:s<32) :
  ((r:Int)*4294967296+x)/2^s%4294967296=((r*4294967296+x)/2^s:Nat) /\
  bits .and .u64 ((r:Int)*4294967296+x) (IntKind.u64.wrap (IntKind.u64.wrap (2^s)-1))=((r*4294967296+x)%2^s:Nat):=by
 have F:=Tz b;have u:=Nat.two_pow_pos s;have e:((2:Int)^s)=((2^s:Nat):Int):=by simp[Int.natCast_pow]
 constructor
 .rw [e];exact(VO Y C Zbx).1
 .have d:IntKind.u64.wrap (IntKind.u64.wrap (2^s)-1)=((2^s-1:Nat):Int):=by
   rw[e];simp only[IntKind.wrap_u64];omega
  have v:(r:Int)*4294967296+x=((r*4294967296+x:Nat):Int):=by omega
  rw[d,v,A3d Zbx b]
theorem Ol(S:Value)(L:List Nat)(s:Nat)(w:World)(I:Words w S L)(h:L.length<=4398046511104)(F:s<32) :
  Calls Tryz.prog 329 #[S,.int .i64 s] w λe O=>∃R,e=.returned R/\Words O R (Ao (val L/2^s))/\Ext w O:=by
 obtain⟨A,c,rfl,G,v,C⟩:=I.open_;have l:=Ae I.small;clear I;have Z:=Ae C;clear C;obtain⟨n,M⟩:∃n,n=L.length:=⟨_,rfl⟩;rw[<-M]at G h ⊢;replace M:=Ae M;have m:0<2^s:=Nat.two_pow_pos s;have p:2^s<4294967296:=by have:=Tz F;omega
 replace m:=Ae m;replace p:=Ae p;have T:=λW=>Ce n Zbx .i64 .i64 W;go_enter Tryz.func329,Tryz.ntmps329;go_wp2;go_loopw [6,7] (λt i wr=>∃(k r:Nat) (q:List Nat),k<=n/\i=.int .i64 ((k:Int)-1)/\t=.int .u64 r/\Hid (r<2^s)/\Hid (DsRel w wr L q (2^s) n k r)) (λ_ i _=>(intOf i+1).toNat)
 case atStart => exact ⟨n, 0, List.replicate n 0, Nat.le_refl _, rfl, rfl, m.out, by simp, BW _, Blk.new _ _ _, by
  have u:L.drop n=[]:=List.drop_eq_nil_of_le Zds;rw[u];simp[val],(Ext.refl _).alloc _⟩
 case round=>
  obtain⟨k,r,q,B,rfl,rfl,Y,J⟩:=hrel;by_cases z:k=0
  .subst z
   have N:Hid (Words wr (.slice (some ⟨w.heap.size,0,none⟩) n n) q):=by
    exact Zfy
   have a:Hid (val L/2^s=val q):=by
    have u:=J.out.2.2.2.1;simp only[List.drop_zero]at u;show val L/2^s=val q;rw[u,Nat.mul_comm,Nat.mul_add_div m.out,Nat.div_eq_of_lt Y.out,Nat.add_zero]
   go_wp2_with (go_at_call 287;refine(Dt _ _ _ N.out).mono ?_;rintro e O ⟨R,rfl,V,X⟩);go_ret;refine⟨R,rfl,?_,J.out.2.2.2.2.trans X⟩;rw[AW J.out.2.1,<-a.out]at V;exact V
  .obtain ⟨k, rfl⟩:∃q, k=q+1:=⟨k-1, by omega⟩
   obtain⟨b,o,rfl,E,Q⟩:=Z.out Zds;replace Q:=(J.out.2.2.2.2.cell (p:=⟨b,o+k,none⟩) E).trans (Q k Zds);have d:=AK l.out k;have K:wr.cell? ⟨w.heap.size,k,none⟩=some (.int .u32 (q.getD k 0:Nat)):=Zhp
   have f:=J.out.2.2.1.frozen k;generalize C:L.getD k 0=x at *;replace C:=Ae C;unfold BB at d;have g:((k+1:Nat):Int)-1=k:=by omega
   rw[g];have j:r<4294967296:=Nat.lt_trans Y.out p.out;have y:=JJ (r:=r) (x:=x) j d;have a:=Ae (A2k Y.out d F);go_wp2;refine⟨⟨k,(r*4294967296+x)%2^s,_,by omega,rfl,by rw[a.out.2],Nat.mod_lt _ m.out,J.out.step B M.out.symm C.out m.out Y.out p.out d a.out.1⟩,by simp[intOf]⟩
structure KN(u v p vl ul v1 v2 u0 u1 u2:Nat):Prop where
 hv:v=vl+p*(v2+BB*v1)
 hu:u=ul+p*(u2+BB*(u1+BB*u0))
 vl_lt:vl<p
 ul_lt:ul<p
 v2_lt:v2<BB
 v1_lt:v1<BB
 u0_lt:u0<BB
 u1_lt:u1<BB
 u2_lt:u2<BB
 v1_pos:0<v1
 lt:u<BB*v
section
variable {u v p vl ul v1 v2 u0 u1 u2:Nat}
theorem KN.p_pos(h:KN u v p vl ul v1 v2 u0 u1 u2):0<p:=Nat.lt_of_le_of_lt (Nat.zero_le _) h.vl_lt
theorem KN.u0_le(h:KN u v p vl ul v1 v2 u0 u1 u2):u0<=v1:=by
 have F:=h.p_pos
 have A:v+1<=p*(v2+1+BB*v1):=by
  rw[h.hv,show v2+1+BB*v1=(v2+BB*v1)+1 by omega,Nat.mul_add p (v2+BB*v1) 1];have:=h.vl_lt;omega
 have B:v2+1+BB*v1<=BB*(v1+1):=by
  rw[Nat.mul_add];have:=h.v2_lt;omega
 have I:v<p*(BB*(v1+1)):=Nat.lt_of_lt_of_le A (Nat.mul_le_mul_left p B);have V:u<BB*(p*(BB*(v1+1))):=Nat.lt_trans h.lt (Nat.mul_lt_mul_of_pos_left I Cp)
 have m:p*(BB*(BB*u0))<=u:=by
  rw[h.hu]
  have:BB*(BB*u0)<=u2+BB*(u1+BB*u0):=by
   exact ZfK
  have:=Nat.mul_le_mul_left p this;omega
 have y:BB*(p*(BB*(v1+1)))=p*(BB*(BB*(v1+1))):=by rw[Nat.mul_left_comm]
 rw[y]at V;have e:=Nat.lt_of_le_of_lt m V;have C:=Nat.lt_of_mul_lt_mul_left e;have Z:=Nat.lt_of_mul_lt_mul_left C;have E:=Nat.lt_of_mul_lt_mul_left Z;omega
theorem KN.v_ge(h:KN u v p vl ul v1 v2 u0 u1 u2):p*BB<=v:=by
 rw[h.hv];have:BB*1<=BB*v1:=Nat.mul_le_mul_left _ h.v1_pos;have A:p*BB<=p*(v2+BB*v1):=Nat.mul_le_mul_left p Zbx;omega
theorem KN.v_pos(h:KN u v p vl ul v1 v2 u0 u1 u2):0<v:=Nat.lt_of_lt_of_le (Nat.mul_pos h.p_pos Cp) h.v_ge
theorem KN.q_lt(h:KN u v p vl ul v1 v2 u0 u1 u2):u/v<BB:=Nat.div_lt_of_lt_mul (by rw[Nat.mul_comm];exact h.lt)
theorem KN.qV(h:KN u v p vl ul v1 v2 u0 u1 u2):u/v*(v2+BB*v1)<=u2+BB*(u1+BB*u0):=by
 have A:u/v*v<=u:=Nat.div_mul_le_self u v
 have B:p*(u/v*(v2+BB*v1))<=u/v*v:=by
  rw[Nat.mul_left_comm];refine Nat.mul_le_mul_left _ ?_;have:=h.hv;omega
 have I:u<p*(u2+BB*(u1+BB*u0)+1):=by
  have:=h.hu;have:=h.ul_lt;rw[Nat.mul_add p _ 1];omega
 have V:p*(u/v*(v2+BB*v1))<p*(u2+BB*(u1+BB*u0)+1):=by omega
 have:=Nat.lt_of_mul_lt_mul_left V;omega
theorem KN.qv1(h:KN u v p vl ul v1 v2 u0 u1 u2):u/v*v1<=u1+BB*u0:=by
 have A:=h.qV
 have B:BB*(u/v*v1)<=u/v*(v2+BB*v1):=by
  rw[Nat.mul_add (u/v),Nat.mul_left_comm];omega
 have I:BB*(u/v*v1)<BB*(u1+BB*u0+1):=by
  have:=h.u2_lt;rw[Nat.mul_add BB _ 1];omega
 have:=Nat.lt_of_mul_lt_mul_left I;omega
theorem KN.start(h:KN u v p vl ul v1 v2 u0 u1 u2):u/v<=(u1+BB*u0)/v1:=(Nat.le_div_iff_mul_le h.v1_pos).2 h.qv1
theorem KN.down(h:KN u v p vl ul v1 v2 u0 u1 u2){q r:Nat}(a:q*v1+r=u1+BB*u0)(z:u/v<=q)(M:BB<=q\/r*BB+u2<q*v2):1<=q/\u/v<=q-1/\(q-1)*v1+(r+v1)=u1+BB*u0:=by
 have g:1<=q:=by
  rcases M with M | M
  .have:=Cp;omega
  .rcases Nat.eq_zero_or_pos q with g | g
   .subst g;simp at M
   .exact g
 refine⟨g,?_,?_⟩
 .rcases M with M | M
  .have:=h.q_lt;omega
  .have Q:u/v<q:=by
    have A:=h.qV
    have B:u2+BB*(u1+BB*u0)<q*(v2+BB*v1):=by
     rw[<-a,Nat.mul_add q,Nat.mul_left_comm q,Nat.mul_add BB];have:BB*r=r*BB:=Nat.mul_comm _ _;omega
    exact Nat.lt_of_mul_lt_mul_right (Nat.lt_of_le_of_lt A B)
   omega
 .have:(q-1)*v1+v1=q*v1:=by
   exact ZfI
  omega
theorem KN.great(h:KN u v p vl ul v1 v2 u0 u1 u2){q r:Nat}(a:q*v1+r=u1+BB*u0)(Y:BB<=r):q<BB/\q*v2<=r*BB+u2:=by
 have g:=h.u0_le;have A:BB*u0<=BB*v1:=Nat.mul_le_mul_left _ g;have B:q*v1<BB*v1:=by have:=h.u1_lt;omega
 have z:q<BB:=Nat.lt_of_mul_lt_mul_right B;refine⟨z,?_⟩;have I:q*v2<=BB*BB:=Nat.mul_le_mul (Nat.le_of_lt z) (Nat.le_of_lt h.v2_lt);have V:BB*BB<=r*BB:=Nat.mul_le_mul_right _ Y;omega
theorem KN.after(h:KN u v p vl ul v1 v2 u0 u1 u2){q r:Nat}(a:q*v1+r=u1+BB*u0)(z:q<BB)(M:q*v2<=r*BB+u2):q*v<u+v:=by
 have A:q*(v2+BB*v1)<=u2+BB*(u1+BB*u0):=by
  rw[<-a,Nat.mul_add q,Nat.mul_left_comm q,Nat.mul_add BB];have:BB*r=r*BB:=Nat.mul_comm _ _;omega
 have B:q*v=q*vl+p*(q*(v2+BB*v1)):=by
  rw[h.hv,Nat.mul_add,Nat.mul_left_comm q p]
 have I:p*(q*(v2+BB*v1))<=p*(u2+BB*(u1+BB*u0)):=Nat.mul_le_mul_left p A;have V:p*(u2+BB*(u1+BB*u0))<=u:=by have:=h.hu;omega
 have m:q*vl<p*BB:=by
  rw[Nat.mul_comm p];exact Nat.lt_of_le_of_lt (Nat.mul_le_mul_right _ (Nat.le_of_lt z)) (Nat.mul_lt_mul_of_pos_left h.vl_lt Cp)
 have y:=h.v_ge;omega
end
theorem Vk(h:l.length=n+2):val l=val (l.take n)+BB^n*(l.getD n 0+BB*l.getD (n+1) 0):=by
 have u:=AO l (n+1);have A:=AO l n;rw[List.take_of_length_le Zbx]at u;rw[u,A,Nat.pow_succ,Nat.mul_assoc,Nat.add_assoc,<-Nat.mul_add]
theorem Vj(h:l.length=n+3):val l=val (l.take n)+BB^n*(l.getD n 0+BB*(l.getD (n+1) 0+BB*l.getD (n+2) 0)):=by
 have u:=AO l (n+2);have A:=AO l (n+1);have I:=AO l n;rw[List.take_of_length_le Zbx]at u;rw[u,A,I];have d:BB^(n+1)=BB^n*BB:=Nat.pow_succ ..;have v:BB^(n+2)=BB^n*(BB*BB):=by rw[Nat.pow_add];rfl
 rw[d,v];simp only[Nat.mul_add,Nat.mul_assoc,Nat.add_assoc]
theorem CI(h:Bt l)(k:Nat):Bt (l.take k):=λx C=>h x (List.mem_of_mem_take C)
theorem Oj(h:Bt l)(k:Nat):Bt (l.drop k):=λx C=>h x (List.mem_of_mem_drop C)
theorem A3Q(M:l.length=n+3)(o:f.length=n+2)(P:Bt l)(u:Bt f)(B:0<f.getD (n+1) 0)(Q:val l<BB*val f) :
  KN (val l) (val f) (BB^n) (val (f.take n)) (val (l.take n)) (f.getD (n+1) 0) (f.getD n 0) (l.getD (n+2) 0) (l.getD (n+1) 0) (l.getD n 0) where
 hv:=Vk o
 hu:=Vj M
 vl_lt:=by have:=Dr (CI u n);rwa [List.length_take,Nat.min_eq_left Zbx]at this
 ul_lt:=by have:=Dr (CI P n);rwa [List.length_take,Nat.min_eq_left Zbx]at this
 v2_lt:=AK u _
 v1_lt:=AK u _
 u0_lt:=AK P _
 u1_lt:=AK P _
 u2_lt:=AK P _
 v1_pos:=B
 lt:=Q
def Win(w:World)(b:Nat)(pre x post:List Nat):Prop:=Blk w b 335 (wv (pre++x++post))
theorem Win.cell{b:Nat}{pre x post:List Nat}(h:Win w b pre x post){k:Nat}(B:k<x.length):w.cell? ⟨b,pre.length+k,none⟩=some (.int .u32 (x.getD k 0:Nat)):=by
 rw[Blk.cell h,Dn ZgC];simp[List.getElem?_append,B,show¬pre.length+k<pre.length by omega]
theorem Win.frozen{b:Nat}{pre x post:List Nat}(h:Win w b pre x post)(k:Nat):w.frozen? ⟨b,k,none⟩=false:=Blk.frozen h k
theorem Win.set{b:Nat}{pre x post:List Nat}(h:Win w b pre x post){k:Nat}(B:k<x.length)(y:Nat):Win (w.setCell ⟨b,pre.length+k,none⟩ (.int .u32 (y:Int))) b pre (x.set k y) post:=by
 have:=Blk.set h (pre.length+k) (.int .u32 (y:Int));rw[HJ]at this;unfold Win
 have e:(pre++x++post).set (pre.length+k) y=pre++x.set k y++post:=by
  rw[List.append_assoc,List.append_assoc,List.set_append_right _ _ Zbx,Nat.add_sub_cancel_left,List.set_append_left _ _ B]
 rw[e]at this;exact this
structure Only(b:Nat)(w w':World):Prop where
 os:w'.os=w.os
 tape:w'.tape=w.tape
 output:w'.output=w.output
 size:w.heap.size<=w'.heap.size
 block:∀k,k<w.heap.size->k≠b->w'.heap[k]? = w.heap[k]?
theorem Only.refl(b:Nat)(w:World):Only b w w:=⟨rfl,rfl,rfl,Nat.le_refl _,λ_ _ _=>rfl⟩
theorem Only.trans{b:Nat}(u:Only b w h)(k:Only b h uA):Only b w uA:=
 ⟨k.os.trans u.os,k.tape.trans u.tape,k.output.trans u.output,Nat.le_trans u.size k.size,λi K B=>(k.block i (Nat.lt_of_lt_of_le K u.size) B).trans (u.block i K B)⟩
theorem Only.drewN(u:Only n w h)(A:Nat):Only n w (h.drewN A):=⟨u.os,u.tape,u.output,u.size,u.block⟩
theorem Only.set{b:Nat}(A:Only b w h)(o:Nat)(u:Value):Only b w (h.setCell ⟨b,o,none⟩ u):=
 ⟨A.os,A.tape,A.output,by simpa[World.setCell]using A.size,λi K B=>(Below.heap_setCell h ⟨b,o,none⟩ u i B).trans (A.block i K B)⟩
theorem Only.cellv(u:Only n w h){p:Addr}(F:p.block≠n){v:Value}(o:w.cell? p=some v):h.cell? p=some v:=
 (World.cell?_of_block (w:=w) (u.block p.block (World.block_lt_of_cell? w p o) F)).trans o
theorem Un(x y c:Nat)(C:x<4294967296)(N:y<=4294967296)(G:c<=1)(u:y+c<=4294967296) :
  IntKind.u64.wrap (IntKind.u64.wrap ((x:Int)-y)-c)%4294967296=((x+BB*(if x<y+c then 1 else 0)-y-c:Nat):Int) /\
  IntKind.u64.wrap (IntKind.u64.wrap ((x:Int)-y)-c)/9223372036854775808=((if x<y+c then 1 else 0:Nat):Int):=by
 simp only[IntKind.wrap_u64,Bn];split
 .constructor<;>omega
 .constructor<;>omega
theorem A4h{q y c z d:Nat}(B:z<4294967296)(W:d<=1) :
  IntKind.u64.wrap (IntKind.u64.wrap ((z:Int)-((q:Int)*y+c)%4294967296)-d)%4294967296=((z+BB*(if z<(q*y+c)%BB+d then 1 else 0)-(q*y+c)%BB-d:Nat):Int) /\
  IntKind.u64.wrap (IntKind.u64.wrap ((z:Int)-((q:Int)*y+c)%4294967296)-d)/9223372036854775808=((if z<(q*y+c)%BB+d then 1 else 0:Nat):Int) /\
  ((q:Int)*y+c)/4294967296=(((q*y+c)/BB:Nat):Int):=by
 have e:(q:Int)*y+c=((q*y+c:Nat):Int):=by simp[Int.natCast_add,Int.natCast_mul]
 have s:=Nat.mod_lt (q*y+c) Cp;have v:((q:Int)*y+c)%4294967296=(((q*y+c)%BB:Nat):Int):=by rw[e,Bn,Int.natCast_emod];rfl
 have U:((q:Int)*y+c)/4294967296=(((q*y+c)/BB:Nat):Int):=by rw[e,Bn,Int.natCast_ediv];rfl
 rw[v,U];rw[Bn]at s;obtain⟨u,A⟩:=Un z ((q*y+c)%BB) d B Zcr W Zcr;exact⟨u,A,rfl⟩
def MsRel(w wr:World)(b:Nat)(pre post u v x:List Nat)(n q k cy l:Nat):Prop:=
 x.length=n+1/\Bt x/\Win wr b pre x post/\Only b w wr/\val (x.take k)+q*val (v.take k)=val (u.take k)+BB^k*(cy+l)/\∀i,k<=i->x.getD i 0=u.getD i 0
theorem MsRel.step{pre post u v x:List Nat}{B q k cy l y z:Nat}(A:MsRel w h n pre post u v x B q k cy l)(F:k<B)(N:v.getD k 0=y)(O:x.getD k 0=z)(S:z<BB)(G:l<=1){e:Int}
  (a:e=(z+BB*(if z<(q*y+cy)%BB+l then 1 else 0)-(q*y+cy)%BB-l:Nat)) :
  MsRel w (h.setCell ⟨n,pre.length+k,none⟩ (.int .u32 e)) n pre post u v (x.set k (z+BB*(if z<(q*y+cy)%BB+l then 1 else 0)-(q*y+cy)%BB-l)) B q (k+1) ((q*y+cy)/BB) (if z<(q*y+cy)%BB+l then 1 else 0):=by
 obtain⟨C,E,I,V,m,M⟩:=A;have s:=Nat.mod_lt (q*y+cy) Cp;have d:z+BB*(if z<(q*y+cy)%BB+l then 1 else 0)-(q*y+cy)%BB-l<BB:=by split<;>omega
 have W:z+BB*(if z<(q*y+cy)%BB+l then 1 else 0)-(q*y+cy)%BB-l+((q*y+cy)%BB+l)=z+BB*(if z<(q*y+cy)%BB+l then 1 else 0):=by split<;>omega
 generalize (if z<(q*y+cy)%BB+l then 1 else 0:Nat)=Q at *;generalize H:z+BB*Q-(q*y+cy)%BB-l=X at *;refine⟨by simpa using C,CN E k d,by rw[a];exact I.set Zbx X,V.set _ _,?_,λi K=>?_⟩
 .rw [AO, CQ, BS Zbx, AO u, AO v, N, <-M k (Nat.le_refl _), O]
  have L:=Nat.mod_add_div (q*y+cy) BB
  have U:BB^(k+1)*((q*y+cy)/BB+Q)+BB^k*z=BB^k*X+q*(BB^k*y)+BB^k*(cy+l):=by
   have R:BB*((q*y+cy)/BB+Q)+z=X+q*y+(cy+l):=ZfK
   rw[Nat.pow_succ,Nat.mul_assoc,<-Nat.mul_add,R,Nat.mul_add,Nat.mul_add,Nat.mul_left_comm q]
  rw[Nat.mul_add q];omega
 .rw [<-M i Zbx]
  exact Zaz
theorem Ds(h:l.length=n+1):val l=val (l.take n)+BB^n*l.getD n 0:=by
 have:=AO l n;rwa [List.take_of_length_le Zbx]at this
theorem MsRel.close1{b:Nat}{pre post u v x:List Nat}{n q cy l z:Nat}(A:MsRel w h b pre post u v x n q n cy l)(M:u.length=n+1)(o:v.length=n)(E:x.getD n 0=z)(K:z<BB)(g:cy+l<=z)(Y:val u/val v<=q)(L:0<val v){e:Int}(a:e=(z-cy-l:Nat)) :
  ∃P,P.length=n+1/\Bt P/\Win (h.setCell ⟨b,pre.length+n,none⟩ (.int .u32 e)) b pre P post/\Only b w (h.setCell ⟨b,pre.length+n,none⟩ (.int .u32 e))/\val P+q*val v=val u/\val P<val v:=by
 obtain⟨B,C,I,V,m,y⟩:=A;have j:v.take n=v:=List.take_of_length_le Zbx;rw[j]at m
 have GX:val (x.set n (z-cy-l))+q*val v=val u:=by
  rw[Ds (n:=n) Zck,CQ,BS Zbx,Ds M,<-y n (Nat.le_refl _),E];have:BB^n*z=BB^n*(z-cy-l)+BB^n*(cy+l):=by rw[<-Nat.mul_add];exact ZfJ
  omega
 refine⟨x.set n (z-cy-l),by simpa using B,CN C n Zbx,by rw[a];exact I.set Zbx _,V.set _ _,GX,?_⟩
 have F:val u<(val u/val v+1)*val v:=by
  rw[Nat.mul_comm];exact Nat.lt_mul_div_succ (val u) L
 have G:(val u/val v+1)*val v<=(q+1)*val v:=Nat.mul_le_mul_right _ Zbx;rw[Nat.add_mul q,Nat.one_mul]at G;omega
theorem MsRel.close2{b:Nat}{pre post u v x:List Nat}{n q cy l z:Nat}(A:MsRel w h b pre post u v x n q n cy l)(M:u.length=n+1)(o:v.length=n)(E:x.getD n 0=z)(Q:z<cy+l)(O:cy+l<=BB){e:Int}(a:e=(z+BB-cy-l:Nat)) :
  (x.set n (z+BB-cy-l)).length=n+1/\Bt (x.set n (z+BB-cy-l))/\Win (h.setCell ⟨b,pre.length+n,none⟩ (.int .u32 e)) b pre (x.set n (z+BB-cy-l)) post/\Only b w (h.setCell ⟨b,pre.length+n,none⟩ (.int .u32 e))/\val (x.set n (z+BB-cy-l))+q*val v=val u+BB^(n+1):=by
 obtain⟨B,C,I,V,m,y⟩:=A;have j:v.take n=v:=List.take_of_length_le Zbx;rw[j]at m;refine⟨by simpa using B,CN C n Zbx,by rw[a];exact I.set Zbx _,V.set _ _,?_⟩;rw[Ds (n:=n) Zck,CQ,BS Zbx,Ds M,<-y n (Nat.le_refl _),E];have:BB^n*z+BB^n*BB=BB^n*(z+BB-cy-l)+BB^n*(cy+l):=by rw[<-Nat.mul_add,<-Nat.mul_add];exact ZfJ
 rw[Nat.pow_succ];omega
def AbRel(w wr:World)(b:Nat)(pre post r v x:List Nat)(n k L:Nat):Prop:=
 x.length=n+1/\Bt x/\Win wr b pre x post/\Only b w wr/\val (x.take k)+BB^k*L=val (r.take k)+val (v.take k)/\∀i,k<=i->x.getD i 0=r.getD i 0
theorem AbRel.drewN{pre post r v x:List Nat}{A k L:Nat}(u:AbRel w h n pre post r v x A k L)(q:Nat):AbRel w (h.drewN q) n pre post r v x A k L:=
 ⟨u.1,u.2.1,u.2.2.1,u.2.2.2.1.drewN q,u.2.2.2.2.1,u.2.2.2.2.2⟩
theorem AbRel.step{pre post r v x:List Nat}{A k O y z:Nat}(u:AbRel w h n pre post r v x A k O)(E:k<A)(N:v.getD k 0=y)(M:x.getD k 0=z)(Q:y<BB)(R:z<BB)(G:O<=1){e:Int}(a:e=((z+y+O)%BB:Nat)) :
  AbRel w (h.setCell ⟨n,pre.length+k,none⟩ (.int .u32 e)) n pre post r v (x.set k ((z+y+O)%BB)) A (k+1) ((z+y+O)/BB)/\(z+y+O)/BB<=1:=ZaA
theorem AbRel.close{b:Nat}{pre post r v x u:List Nat}{n L z q:Nat}(A:AbRel w h b pre post r v x n n L)(N:r.length=n+1)(s0:Bt r)(o:v.length=n)(F:x.getD n 0=z)(M:z<BB)(G:L<=1)
  (g:val r+q*val v=val u+BB^(n+1)) (E:q*val v<val u+val v) {e:Int} (a:e=((z+L)%BB:Nat)) :
  ∃P,P.length=n+1/\Bt P/\Win (h.setCell ⟨b,pre.length+n,none⟩ (.int .u32 e)) b pre P post/\Only b w (h.setCell ⟨b,pre.length+n,none⟩ (.int .u32 e))/\1<=q/\val P+(q-1)*val v=val u/\val P<val v:=by
 obtain⟨B,C,I,V,m,y⟩:=A;have j:v.take n=v:=List.take_of_length_le Zbx;rw[j]at m;have s:=Dr s0;rw[N]at s
 have R:1<=q:=by
  rcases Nat.eq_zero_or_pos q with A | A
  .subst A;rw[Nat.zero_mul]at g;omega
  .exact A
 have W:(q-1)*val v+val v=q*val v:=by
  exact ZfI
 have Q:r.getD n 0=z:=by rw[<-y n (Nat.le_refl _),F]
 have f:=Ds N;rw[Q]at f
 have X:val (x.take n)<BB^n:=by
  have:=Dr (CI C n);exact Zhr
 have S:BB^(n+1)=BB^n*BB:=Nat.pow_succ ..
 have t:val (x.take n)+BB^n*(z+L)=BB^(n+1)+(val u+val v-q*val v):=by
  exact ZfK
 have O:z+L=BB:=by
  rcases Nat.lt_or_ge (z+L) BB with A | A
  .exfalso
   have K:BB^n*(z+L+1)<=BB^n*BB:=Nat.mul_le_mul_left _ A;rw[Nat.mul_add,<-S,Nat.mul_one]at K;omega
  .omega
 rw[O,<-S]at t
 have GX:val (x.set n ((z+L)%BB))=val u+val v-q*val v:=by
  rw[Ds (n:=n) Zck,CQ,BS Zbx,O,Nat.mod_self,Nat.mul_zero,Nat.add_zero];omega
 refine⟨x.set n ((z+L)%BB),by simpa using B,CN C n (Nat.mod_lt _ Cp),by rw[a];exact I.set Zbx _,V.set _ _,R,?_,?_⟩
 .rw [GX];omega
 .rw [GX];omega
theorem Xw{k:IntKind}{a b:Int}(h:a=b):Ending.returned (.int k a)=.returned (.int k b):=by rw[h]
def A1C(w:World)(b:Nat)(pre post u v:List Nat)(e:Ending)(O:World):Prop:=
 ∃(q:Nat) (x:List Nat),e=.returned (.int .u32 q)/\q<BB/\x.length=u.length/\Bt x/\Win O b pre x post/\Only b w O/\val x+q*val v=val u/\val x<val v
def A4U(w:World)(b P k l:Nat)(pre post u v:List Nat)(q r:Value)(t:World):Prop:=
 ∃A K:Nat,q=.int .u64 A/\r=.int .u64 K/\K<4294967296/\A<=8589934592/\Hid (A*P+K=l+BB*k/\val u/val v<=A)/\Hid (Win t b pre u post/\Only b w t)
set_option maxRecDepth 1000000 in
theorem Mb(b bv ov n cu cv:Nat)(pre post u v:List Nat)(w:World)(S:Win w b pre u post)(R:u.length=n+1)(o:v.length=n)(xx:2<=n)(h:n<=4398046511104)(su:Bt u)(sv:Bt v)(xD:bv≠b)
  (xr:∀i,i<n->w.cell? ⟨bv,ov+i,none⟩=some (.int .u32 (v.getD i 0:Nat))) (xA:n+1<=cu) (xv:n<=cv) (xt:2147483648<=v.getD (n-1) 0) (Q:val u<BB*val v) :
  Calls Tryz.prog 328 #[.slice (some ⟨b,pre.length,none⟩) (n+1) cu,.slice (some ⟨bv,ov,none⟩) n cv] w (A1C w b pre post u v):=by
 obtain⟨m,rfl⟩:∃m,n=m+2:=⟨n-2,by omega⟩;have p:=Ae (A3Q R o su sv Zdw Q);have xn:=S.cell (k:=m+2) Zbx;have xh:=S.cell (k:=m+1) Zbx;have xg:=S.cell (k:=m) Zbx;have xl:=xr (m+1) Zbx;have xi:=xr m Zbx;have xp:=AK su (m+2);have xB:=AK su (m+1);have xP:=AK su m;have xk:=AK sv (m+1);have xs:=AK sv m;have xQ:2147483648<=v.getD (m+1) 0:=xt;generalize xI:u.getD (m+2) 0=U0 at *;generalize xJ:u.getD (m+1) 0=U1 at *;generalize xG:u.getD m 0=U2 at *;generalize xK:v.getD (m+1) 0=U at *;generalize xL:v.getD m 0=V2 at *;replace xI:=Ae xI;replace xJ:=Ae xJ;replace xG:=Ae xG;replace xK:=Ae xK;replace xL:=Ae xL;unfold BB at xp xB xP xk xs;replace S:=Ae S;replace R:=Ae R;replace o:=Ae o;replace su:=Ae su;replace sv:=Ae sv;replace xr:=Ae xr;replace Q:=Ae Q;clear xt;generalize X:pre.length=P at *;replace X:=Ae X;have xO:=JJ (r:=U0) (x:=U1) xp xB;have s:m<=4398046511102:=by omega
 clear h xx;go_enter Tryz.func328,Tryz.ntmps328;go_wp2;go_quiet (fail);go_wp2;go_quiet (fail)
 have g:Hid (((U0:Int)*4294967296+U1)/U=((U1+BB*U0)/U:Nat)/\((U0:Int)*4294967296+U1)%U=((U1+BB*U0)%U:Nat)):=by
  have e:(U0:Int)*4294967296+U1=((U1+BB*U0:Nat):Int):=by rw[Bn];omega
  exact Zgk
 go_upto_block 0 with(fail)
 rw[g.out.1,g.out.2];go_cut [7,8] (λq r wx=>∃qn:Nat,q=.int .u64 qn/\qn<4294967296/\Hid (val u/val v<=qn/\qn*val v<val u+val v)/\Hid (Win wx b pre u post/\Only b w wx))
 case first=>
  go_wp2;go_loopw [7,8] (λq r wx=>A4U w b U U0 U1 pre post u v q r wx) (λq _ _=>(intOf q).toNat)
  case atStart=>
   have xm:0<U:=by omega
   refine⟨_,_,rfl,rfl,?_,?_,⟨?_,?_⟩,?_⟩
   .have:=Nat.mod_lt (U1+BB*U0) xm;omega
   .refine Nat.le_of_lt (Nat.div_lt_of_lt_mul ?_)
    have:2147483648*8589934592<=U*8589934592:=Nat.mul_le_mul_right _ xQ;rw[Bn];omega
   .rw [Nat.mul_comm];exact Nat.div_add_mod _ _
   .exact p.out.start
   .exact ⟨S.out,((Only.refl _ _).drewN _).drewN _⟩
  case round=>
   obtain⟨q,r,rfl,rfl,Y,K,J,H⟩:=hrel
   have g2:wr.cell? ⟨b,P+m,none⟩=some (.int .u32 (U2:Nat)):=by
    have:=H.out.1.cell (k:=m) (by rw[R.out];omega);rw[X.out,xG.out]at this;exact this
   have g1:wr.cell? ⟨bv,ov+(m+1),none⟩=some (.int .u32 (U:Nat)):=H.out.2.cellv xD xl;have g3:wr.cell? ⟨bv,ov+m,none⟩=some (.int .u32 (V2:Nat)):=H.out.2.cellv xD xi;have xS:=JJ (r:=r) (x:=U2) Y xP;clear xn xh xg xl xi xO;have xM:=Ae (λM=>p.out.down J.out.1 J.out.2 (q:=q) (r:=r) M);have xe:Hid (∀q' O,q'*U+O=U1+BB*U0->val u/val v<=q'->q'<BB->q'*V2<=O*BB+U2->val u/val v<=q'/\q'*val v<val u+val v):=λq' O A B I V=>⟨B,p.out.after A I V⟩;have xN:Hid (∀q' O,q'*U+O=U1+BB*U0->BB<=O->q'<BB/\q'*V2<=O*BB+U2):=λq' O A B=>p.out.great A B;by_cases xj:4294967296<=q
   .have xw:decide ((4294967296:Int)<=q)=true:=ZgC
    replace xj:=Ae xj;replace K:=Ae K;have W:=Ae (xM.out (.inl (by rw[Bn];exact xj.out)));by_cases xd:4294967296<=r+U
    .have xF:(4294967296:Int)<=(r:Int)+U:=by omega
     replace xd:=Ae xd;go_wp2;go_quiet (fail);have xc:(1:Int)<=q:=by have:=xj.out;omega
     have xy:(q:Int)<=8589934592:=by have:=K.out;omega
     clear xw;go_wp2;go_meet
     case rel=>
      exact ZeW
    .have xF:decide ((4294967296:Int)<=(r:Int)+U)=false:=ZgC
     replace xd:=Ae xd;go_wp2;go_quiet (fail);have xc:(1:Int)<=q:=by have:=xj.out;omega
     have xy:(q:Int)<=8589934592:=by have:=K.out;omega
     clear xw;exact ZeZ
   .have xw:decide ((4294967296:Int)<=q)=false:=ZgC
    have xE:q<4294967296:=by omega
    replace xj:=Ae xj;replace K:=Ae K;have F:(q:Int)*V2<=18446744065119617025:=by have:=EI xE xs;omega
    have xo:(0:Int)<=(q:Int)*V2:=Int.mul_nonneg Zbx Zbx;by_cases xu:r*4294967296+U2<q*V2
    .have xC:decide ((r:Int)*4294967296+U2<(q:Int)*V2)=true:=ZgC
     have W:=Ae (xM.out (.inr (by rw[Bn];exact xu)));replace xu:=Ae xu;have xc:(1:Int)<=q:=by have:=W.out.1;omega
     by_cases xd:4294967296<=r+U
     .have xF:decide ((4294967296:Int)<=(r:Int)+U)=true:=ZgC
      replace xd:=Ae xd;go_wp2;go_quiet (fail);clear F xo xC xw xS;go_wp2;go_meet
      case rel=>
       exact ZeW
     .have xF:decide ((4294967296:Int)<=(r:Int)+U)=false:=ZgC
      replace xd:=Ae xd;go_wp2;go_quiet (fail);clear F xo xC xw xS;exact ZeZ
    .have xC:decide ((r:Int)*4294967296+U2<(q:Int)*V2)=false:=ZgC
     replace xu:=Ae xu;go_wp2;go_quiet (fail);go_wp2;go_meet
     case rel=>exact⟨q,rfl,xE,xe.out _ _ J.out.1 J.out.2 (by rw[Bn];exact xE) (by have:=xu.out;rw[Bn];omega),H.out.1,H.out.2.drewN _⟩
 case rest=>
  obtain⟨q,rfl,K,J,H⟩:=hcut;clear xn xh xg xl xi xO;go_wp2;obtain⟨wo,rfl⟩:∃wo:World,wo=wc:=⟨_,rfl⟩;go_loopw [9,10,83] (λcy a i wr=>∃(k c d:Nat) (x:List Nat),k<=m+2/\i=.int .i64 k/\cy=.int .u64 c/\a=.int .u64 d/\c<4294967296/\d<=1/\Hid (MsRel w wr b pre post u v x (m+2) q k c d)) (λ_ _ i _=>m+2-(intOf i).toNat)
  case atStart=>exact⟨0,0,0,u,Nat.zero_le _,rfl,rfl,rfl,by omega,by omega,R.out,su.out,H.out.1,H.out.2,by simp[val],λ_ _=>rfl⟩
  case round=>
   obtain⟨k,c,d,x,C,rfl,rfl,rfl,xz,xq,l⟩:=hrel;by_cases Q:k<m+2
   .have g1:wr.cell? ⟨bv,ov+k,none⟩=some (.int .u32 (v.getD k 0:Nat)):=l.out.2.2.2.1.cellv xD (xr.out k Q)
    have g2:wr.cell? ⟨b,P+k,none⟩=some (.int .u32 (x.getD k 0:Nat)):=by
     exact ZfZ
    have g3:=l.out.2.2.1.frozen (P+k);have xb:=AK sv.out k;have xf:=AK l.out.2.1 k;generalize N:v.getD k 0=y at *;generalize L:x.getD k 0=z at *;replace N:=Ae N;replace L:=Ae L;unfold BB at xb xf;have F:(q:Int)*y<=18446744065119617025:=by have:=EI K xb;omega
    have xo:(0:Int)<=(q:Int)*y:=Int.mul_nonneg Zbx Zbx;have xa:=Ae (A4h (q:=q) (y:=y) (c:=c) (z:=z) (d:=d) xf xq)
    have xH:Hid ((q*y+c)/BB<4294967296):=by
     have:=EI K xb;show _/BB<4294967296;rw[Bn];omega
    go_wp2;rw[xa.out.1,xa.out.2.1,xa.out.2.2];have:=l.out.step Q N.out L.out ZdQ xq (cy:=c) rfl;rw[X.out]at this;exact⟨⟨k+1,_,_,_,Q,by simp,rfl,rfl,xH.out,by split<;>omega,this⟩,by simp[intOf];omega⟩
   .obtain rfl:k=m+2:=by omega
    have g2:wr.cell? ⟨b,P+(m+2),none⟩=some (.int .u32 (x.getD (m+2) 0:Nat)):=by
     have:=l.out.2.2.1.cell (k:=m+2) ZcW;exact ZfT
    have g3:=l.out.2.2.1.frozen (P+(m+2));have xf:=AK l.out.2.1 (m+2);generalize L:x.getD (m+2) 0=z at *;replace L:=Ae L;unfold BB at xf;have xa:=Ae (Un z c d xf Zbx xq Zbx);by_cases Z:c+d<=z
    .go_wp2
     go_ret;obtain⟨j,A,B,I,V,E,G⟩:=l.out.close1 R.out o.out L.out ZdQ Z J.out.1 p.out.v_pos (e:=(z:Int)-c-d) Zbx;rw[X.out]at I V;exact⟨q,j,rfl,by rw[Bn];exact K,A.trans R.out.symm,B,I,V,E,G⟩
    .have xT:(IntKind.u64.wrap (IntKind.u64.wrap ((z:Int)-c)-d)/9223372036854775808==0)=false:=by
      rw[xa.out.2,if_pos Zbx];rfl
     have t:=l.out.close2 R.out o.out L.out Zbx Zcr (e:=IntKind.u64.wrap (IntKind.u64.wrap ((z:Int)-c)-d)%4294967296) (by rw[xa.out.1,if_pos Zbx,Nat.mul_one]);rw[X.out]at t;generalize x.set (m+2) (z+BB-c-d)=f at t;replace t:=Ae t;replace Z:=Ae Z;go_wp2;obtain⟨wp,xR⟩:∃wp:World,wp=wr.setCell ⟨b,P+(m+2),none⟩ (.int .u32 (IntKind.u64.wrap (IntKind.u64.wrap ((z:Int)-c)-d)%4294967296)):=⟨_,rfl⟩;rw[<-xR]at t;rw[<-xR];clear xR xT xa g2 g3 l;go_loopw [9,136] (λcy i wr=>∃(k c:Nat) (x:List Nat),k<=m+2/\i=.int .i64 k/\cy=.int .u64 c/\c<=1/\Hid (AbRel w wr b pre post f v x (m+2) k c)) (λ_ i _=>m+2-(intOf i).toNat)
     case atStart=>exact⟨0,0,f,Nat.zero_le _,rfl,rfl,by omega,t.out.1,t.out.2.1,t.out.2.2.1,t.out.2.2.2.1,by simp[val],λ_ _=>rfl⟩
     case round=>
      obtain⟨k,c,x,C,rfl,rfl,xh,l⟩:=hrel;by_cases Q:k<m+2
      .have g1:wr.cell? ⟨bv,ov+k,none⟩=some (.int .u32 (v.getD k 0:Nat)):=l.out.2.2.2.1.cellv xD (xr.out k Q)
       have g2:wr.cell? ⟨b,P+k,none⟩=some (.int .u32 (x.getD k 0:Nat)):=by
        exact ZfZ
       have g3:=l.out.2.2.1.frozen (P+k);have xb:=AK sv.out k;have xf:=AK l.out.2.1 k;generalize N:v.getD k 0=y at *;generalize L:x.getD k 0=z at *;replace N:=Ae N;replace L:=Ae L;unfold BB at xb xf;go_wp2;go_quiet (fail);go_wp2;have A:=(l.out.drewN nq).step Q N.out L.out (by rw[Bn];exact xb) ZdQ xh (e:=((z:Int)+y+c)%4294967296) Zcr;rw[X.out]at A;exact⟨⟨k+1,(z+y+c)/BB,_,Q,by simp,by rw[Bn];congr 1,A.2,A.1⟩,by simp[intOf];omega⟩
      .obtain rfl:k=m+2:=by omega
       have g2:wr.cell? ⟨b,P+(m+2),none⟩=some (.int .u32 (x.getD (m+2) 0:Nat)):=by
        have:=l.out.2.2.1.cell (k:=m+2) ZcW;exact ZfT
       have g3:=l.out.2.2.1.frozen (P+(m+2));have xf:=AK l.out.2.1 (m+2);generalize L:x.getD (m+2) 0=z at *;replace L:=Ae L;unfold BB at xf;obtain⟨j,A,B,I,V,xc,E,G⟩:=l.out.close t.out.1 t.out.2.1 o.out L.out ZdQ xh t.out.2.2.2.2 J.out.2 (e:=((z:Int)+c)%4294967296) Zcr;rw[X.out]at I V;have T:=Ae (And.intro A (And.intro B (And.intro I (And.intro V (And.intro E G)))));clear A B I V E G;go_wp2;go_ret;exact⟨q-1,j,Xw Zbx,by rw[Bn];omega,T.out.1.trans R.out.symm,T.out.2.1,T.out.2.2.1,T.out.2.2.2.1,T.out.2.2.2.2.1,T.out.2.2.2.2.2⟩
theorem Yu(x y L:Nat)(C:x<4294967296)(N:y<4294967296)(G:L<=1) :
  IntKind.u64.wrap (4294967296+(x:Int))=4294967296+(x:Int)/\IntKind.u64.wrap (4294967296+(x:Int)-y)=4294967296+(x:Int)-y/\IntKind.u64.wrap (4294967296+(x:Int)-y-L)=4294967296+(x:Int)-y-L /\
  (4294967296+(x:Int)-y-L)%4294967296=((x+BB*(if x<L+y then 1 else 0)-L-y:Nat):Int)/\(4294967296+(x:Int)-y-L)%4294967296%4294967296=((x+BB*(if x<L+y then 1 else 0)-L-y:Nat):Int) /\
  1-(4294967296+(x:Int)-y-L)/4294967296=((if x<L+y then 1 else 0:Nat):Int):=by
 simp only[IntKind.wrap_u64,Bn];refine⟨by omega,by omega,by omega,?_,?_,?_⟩<;>(split<;>omega)
theorem Yq(x y z L:Nat)(C:x<4294967296)(N:y<4294967296)(u:z<4294967296)(G:L<4294967296) :
  IntKind.u64.wrap ((x:Int)*y)=(x:Int)*y/\IntKind.u64.wrap ((x:Int)*y+z)=(x:Int)*y+z/\IntKind.u64.wrap ((x:Int)*y+z+L)=(x:Int)*y+z+L/\0<=(x:Int)*y/\0<=(x:Int)*y+z+L/\(x:Int)*y+z+L<=18446744073709551615:=by
 have F:(x:Int)*y<=18446744065119617025:=by have:=EI C N;omega
 have Q:(0:Int)<=(x:Int)*y:=Int.mul_nonneg Zbx Zbx;generalize (x:Int)*y=p at *;simp only[IntKind.wrap_u64];omega
theorem We(T vb:Value)(Z g:List Nat)(w:World)(S:Words w T Z)(E:Words w vb g)(R:val g<=val Z)(L:g.length<=Z.length)(h:Z.length<=4398046511104) :
  Calls Tryz.prog 277 #[T,vb] w λe O=>∃a,e=.returned a/\Words O a (Ao (val Z-val g))/\Ext w O:=by
 obtain⟨A,c,rfl,G,s,C⟩:=S.open_;obtain⟨B,d,rfl,F,xl,N⟩:=E.open_;have Ha:=Ae S;have Hb:=Ae E;have xg:=Ae S.small;have xn:=Ae E.small;clear S E;have hA:=Ae C;have hB:=Ae N;clear C N;replace R:=Ae R;obtain⟨n,q⟩:∃n,n=Z.length:=⟨_,rfl⟩;obtain⟨m,U⟩:∃m,m=g.length:=⟨_,rfl⟩;rw[<-q]at G L h ⊢;rw[<-U]at F L ⊢;replace q:=Ae q;replace U:=Ae U;have xk:=λW=>Ce n Zbx .i64 .i64 W;go_enter Tryz.func277,Tryz.ntmps277;go_wp2;go_loopw [6,7] (λcy i wr=>∃(k Y:Nat) (r:List Nat),k<=n/\i=.int .i64 k/\cy=.int .u64 Y/\Y<=1/\Hid (DifRel w wr Z g r n k Y)) (λ_ i _=>n-(intOf i).toNat)
 case atStart=>exact⟨0,0,List.replicate n 0,Nat.zero_le _,rfl,rfl,by omega,⟨by simp,BW _,Blk.new _ _ _,by simp[val],(Ext.refl _).alloc _⟩⟩
 case round=>
  obtain⟨k,Y,r,u,rfl,rfl,xh,J⟩:=hrel;by_cases Q:k<n
  .have xp:decide ((k:Int)<n)=true:=by simpa using Q
   obtain⟨b,o,rfl,E,H⟩:=hA.out (by rw[<-q.out];omega);replace H:=(J.out.2.2.2.2.cell (p:=⟨b,o+k,none⟩) E).trans (H k (by rw[<-q.out];omega));have xc:=AK xg.out k;have xf:=AK xn.out k;generalize C:Z.getD k 0=x at *;generalize N:g.getD k 0=y at *;replace C:=Ae C;replace N:=Ae N;unfold BB at xc xf;have Hw:Hid (Words wr (.slice B m d) g):=by rw[U.out];exact Hb.out.ext J.out.2.2.2.2
   have xd:=Ae (Yu x y Y xc xf xh);have K:¬n<=k:=by omega
   have xo:Hid (IntKind.u64.wrap (x:Int)=x):=Ae (IntWalk.u64_in _ Zbx);have xj:(4294967296:Int)+x-y-Y<=8589934591:=by omega
   have xi:0<=(4294967296:Int)+x-y-Y:=by omega
   go_upto_region 6 with(fail)
   refine wp_region_v Zbz [[], [], [(18, 0), (19, 1)], [(20, 2)], [(21, 3)], [(22, 4)], [], [], [(24, 6), (25, 7)], [(23, 5), (26, 8)], [], [(27, 9), (28, 10)]] [[], [], [0, 1], [0, 1, 2], [0, 1, 2, 3], [0, 1, 2, 3, 4], [], [], [6, 7], [0, 1, 2, 3, 4, 5, 6, 7, 8], [], [0, 1, 2, 3, 4, 5, 6, 7, 8, 9, 10]]
    [λv _=>v=.slice (some ⟨b,o,none⟩) n c,λv _=>v=.int .i64 (k:Int),λv _=>v=.pointer (some ⟨b,o+k,none⟩),λv _=>v=.int .u32 (x:Int),λv _=>v=.int .u64 (x:Int),λv _=>v=.int .u64 (4294967296+(x:Int)),λv _=>v=.slice B m d,λv _=>v=.int .i64 (k:Int),λv _=>v=.int .u64 (y:Int),λv _=>v=.int .u64 (4294967296+(x:Int)-y),λv _=>v=.int .u64 (Y:Int),λv _=>v=.int .u64 (4294967296+(x:Int)-y-Y)]
    rfl Zbz Zbz ?stab ?steps ?fin
   case stab=>exact .cons (Stab.eq _) (.cons (Stab.eq _) (.cons (Stab.eq _) (.cons (Stab.eq _) (.cons (Stab.eq _) (.cons (Stab.eq _) (.cons (Stab.eq _) (.cons (Stab.eq _) (.cons (Stab.eq _) (.cons (Stab.eq _) (.cons (Stab.eq _) (.cons (Stab.eq _) .nil)))))))))))
   case steps=>
    refine .cons ?s0 (.cons ?s1 (.cons ?s2 (.cons ?s3 (.cons ?s4 (.cons ?s5 (.cons ?s6 (.cons ?s7 (.cons ?s8 (.cons ?s9 (.cons ?s10 (.cons ?s11 .nil)))))))))))
    case s0=>
     intro O j X u S G p;have P:j (.tmp 0)=.slice (some ⟨b,o,none⟩) n c:=S 0 ZbA;exact AA (by simp[execOp,P,go_sem]) rfl
    case s1=>
     intro O j X u S G p;exact Zgv
    case s2=>
     intro O j X u S G p;have xt:j (.tmp 18)=.slice (some ⟨b,o,none⟩) n c:=u.1 _ rfl;have xu:j (.tmp 19)=.int .i64 (k:Int):=u.2.1 _ rfl;exact AA (by simp[execOp,xt,xu,K,go_sem]) rfl
    case s3=>
     intro O j X u S G p;have xr:j (.tmp 20)=.pointer (some ⟨b,o+k,none⟩):=u.1 _ rfl;have l:O.cell? ⟨b,o+k,none⟩=some (.int .u32 (x:Int)):=X.cellv H;exact AA (by simp[execOp,xr,l,go_sem]) rfl
    case s4=>
     intro O j X u S G p;have xv:j (.tmp 21)=.int .u32 (x:Int):=u.1 _ rfl;exact AA (by simp[execOp,xv,xo.out,go_sem]) rfl
    case s5=>
     intro O j X u S G p;have xw:j (.tmp 22)=.int .u64 (x:Int):=u.1 _ rfl;exact AA (by simp[execOp,xw,G,xd.out.1,go_sem]) rfl
    case s6=>
     intro O j X u S G p;have I:j (.tmp 1)=.slice B m d:=S 1 ZbA;exact AA ZdY rfl
    case s7=>
     intro O j X u S G p;exact Zgv
    case s8=>
     intro O j X u S G p;have xz:j (.tmp 24)=.slice B m d:=u.1 _ rfl;have xA:j (.tmp 25)=.int .i64 (k:Int):=u.2.1 _ rfl;refine CD (by simp[execOp,resolve,invoke,p,xz,xA,go_sem]) (GE _ g k y _ (Hw.out.ext ((Ext.refl _).drew.trans X)) N.out) ?_;rintro e f ⟨rfl,rfl⟩;exact⟨_,rfl,Ext.refl _,rfl⟩
    case s9=>
     intro O j X u S G p;have xy:j (.tmp 23)=.int .u64 (4294967296+(x:Int)):=u.1 _ rfl;have xB:j (.tmp 26)=.int .u64 (y:Int):=u.2.1 _ rfl;exact AA (by simp[execOp,xy,xB,xd.out.2.1,go_sem]) rfl
    case s10=>
     intro O j X u S G p;have e6:j (.tmp 6)=.int .u64 (Y:Int):=S 6 ZbA;exact AA ZdT rfl
    case s11=>
     intro O j X u S G p;have xC:j (.tmp 27)=.int .u64 (4294967296+(x:Int)-y):=u.1 _ rfl;have xx:j (.tmp 28)=.int .u64 (Y:Int):=u.2.1 _ rfl;exact AA (by simp[execOp,xC,xx,xd.out.2.2.1,go_sem]) rfl
   case fin=>
    intro gf O X hF;have xq:=hF 11 _ rfl;simp only[List.length_cons,List.length_nil,Nat.reduceAdd,List.drop_succ_cons,List.drop_zero,List.take_succ_cons,List.take_zero,EM,Act.put,List.setIfInBounds_toArray,List.set_cons_succ,List.set_cons_zero,xq];replace X:=Ae ((Ext.refl _).drew.trans X);have xs:Hid (DifRel w O Z g r n k Y):=⟨J.out.1,J.out.2.1,J.out.2.2.1.ext X.out,J.out.2.2.2.1,J.out.2.2.2.2.trans X.out⟩;have V:O.cell? ⟨w.heap.size,k,none⟩=some (.int .u32 (r.getD k 0:Nat)):=by rw[xs.out.2.2.1.cell,Dn (by rw[xs.out.1];omega)]
    have xe:=xs.out.2.2.1.frozen k;clear hF xq X J Hw;obtain⟨t,M⟩:∃t:Int,t=4294967296+(x:Int)-y-Y:=⟨_,rfl⟩;rw[<-M]at xj xi xd ⊢;replace M:=Ae M;generalize r.getD k 0=xm at *;go_wp2;exact⟨xs.out.step Q C.out N.out xc xf xh (by first | exact xd.out.2.2.2.1 | exact xd.out.2.2.2.2.1) xd.out.2.2.2.2.2,by simp[intOf];omega⟩
  .obtain rfl:k=n:=by omega
   have xb:=Ae (J.out.close q.out.symm (by rw[<-U.out];exact L) R.out)
   have z:Hid (Words wr (.slice (some ⟨w.heap.size,0,none⟩) k k) r):=by
    have:=Ck (c:=k) J.out.2.2.1 J.out.2.1 Zcb Zbx;exact ZeX
   go_wp2_with (go_at_call 288;refine(EJ _ _ _ z.out).mono ?_;rintro e O ⟨a,rfl,xa,X⟩);go_ret;refine⟨a,rfl,?_,J.out.2.2.2.2.trans X⟩;rw[AW J.out.2.1,xb.out]at xa;exact xa
theorem KJ(va vb:Value)(a l:List Nat)(w:World)(t:Words w va a)(F:Words w vb l)(h:a.length<=4398046511104)(s:l.length<=4398046511104) :
  Calls Tryz.prog 278 #[va,vb] w λe O=>∃f,e=.returned f/\Words O f (Ao (val a*val l))/\Ext w O:=by
 obtain⟨A,c,rfl,G,xq,E⟩:=t.open_;obtain⟨B,d,rfl,I,xz,N⟩:=F.open_;have xk:=Ae t.small;have xr:=Ae F.small;clear t F;have hA:=Ae E;have hB:=Ae N;clear E N;obtain⟨n,U⟩:∃n,n=a.length:=⟨_,rfl⟩;obtain⟨m,xc⟩:∃m,m=l.length:=⟨_,rfl⟩;rw[<-U]at G h ⊢;rw[<-xc]at I s ⊢;replace U:=Ae U;replace xc:=Ae xc;have xp:=λW=>Ce (n+m) Zbx .i64 .i64 W;simp only[Int.natCast_add]at xp;go_enter Tryz.func278,Tryz.ntmps278;go_wp2;go_loopw [6] (λi wr=>∃(k:Nat) (r:List Nat),k<=n/\i=.int .i64 k/\Hid (WR w wr a l r n m k)) (λi _=>n-(intOf i).toNat)
 case atStart => exact ⟨0, List.replicate (n + m) 0, Nat.zero_le _, rfl, by simp, BW _, Blk.new _ _ _, by
  have:∀q,val (List.replicate q 0)=0:=λq=>by
   induction q with
   |zero=>rfl
   |succ q H=>simp[List.replicate_succ,val,H]
  simp[val,List.take_replicate,this],(Ext.refl _).alloc _⟩
 case round=>
  obtain⟨k,r,C,rfl,J⟩:=hrel;by_cases Q:k<n
  .obtain ⟨b, o, rfl, F, xa⟩:=hA.out (by rw [<-U.out]; omega)
   replace xa:=(J.out.2.2.2.2.cell (p:=⟨b,o+k,none⟩) F).trans (xa k Zes);have xf:=AK xk.out k;generalize E:a.getD k 0=x at *;replace E:=Ae E;unfold BB at xf;go_wp2;obtain⟨wo,rfl⟩:∃wo:World,wo=wr:=⟨_,rfl⟩;go_loopw [7,8] (λcy i wr=>∃(j Z:Nat) (r:List Nat),j<=m/\i=.int .i64 j/\cy=.int .u64 Z/\Z<4294967296/\Hid (MulIn w wr a l r n m k j x Z)) (λ_ i _=>m-(intOf i).toNat)
   case atStart=>exact Zhd
   case round=>
    obtain⟨j,Z,r,L,rfl,rfl,xl,g⟩:=hrel;by_cases xv:j<m
    .obtain ⟨V, R, rfl, xb, xs⟩:=hB.out (by rw [<-xc.out]; omega)
     replace xs:=(g.out.2.2.2.2.cell (p:=⟨V,R+j,none⟩) xb).trans (xs j (by rw[<-xc.out];omega));have xi:=AK xr.out j;have xj:=AK g.out.2.1 (k+j);have S:wr.cell? ⟨w.heap.size,k+j,none⟩=some (.int .u32 (r.getD (k+j) 0:Nat)):=by rw[g.out.2.2.1.cell,Dn (by rw[g.out.1];omega)]
     have xh:=g.out.2.2.1.frozen (k+j);generalize N:l.getD j 0=y at *;generalize Y:r.getD (k+j) 0=z at *;replace N:=Ae N;replace Y:=Ae Y;unfold BB at xi xj;have xE:wr.cell? ⟨b,o+k,none⟩=some (.int .u32 (x:Int)):=(g.out.2.2.2.2.cell (p:=⟨b,o+k,none⟩) F).trans ((J.out.2.2.2.2.cell (p:=⟨b,o+k,none⟩) F).symm.trans xa);have xg:=Ae (Yq x y z Z xf xi xj xl);have xo:(x:Int)*y+z+Z<=18446744073709551615:=xg.out.2.2.2.2.2;have xn:0<=(x:Int)*y+z+Z:=xg.out.2.2.2.2.1;have xF:¬n<=k:=by omega
     have xt:¬m<=j:=by omega
     have xG:¬n+m<=k+j:=by omega
     have xx:IntKind.i64.wrap ((k:Int)+j)=(k:Int)+j:=IntWalk.i64_in _ Zbx;have xy:((k:Int)+j).toNat=k+j:=by omega
     have xH:(k:Int)+j<(n:Int)+m:=by omega
     have xI:0<=(k:Int)+j:=by omega
     have xB:Hid (IntKind.u64.wrap (x:Int)=x):=Ae (IntWalk.u64_in _ Zbx);have xC:Hid (IntKind.u64.wrap (y:Int)=y):=Ae (IntWalk.u64_in _ Zbx);have xD:Hid (IntKind.u64.wrap (z:Int)=z):=Ae (IntWalk.u64_in _ Zbx);replace xx:=Ae xx;replace xy:=Ae xy;go_upto_region 9 with(fail)
     refine wp_region_v Zbz [[], [], [(28, 0), (29, 1)], [(30, 2)], [(31, 3)], [], [], [(33, 5), (34, 6)], [(35, 7)], [(36, 8)], [(32, 4), (37, 9)], [], [], [], [(40, 12), (41, 13)], [(39, 11), (42, 14)], [(43, 15)], [(44, 16)], [(38, 10), (45, 17)], [], [(46, 18), (47, 19)]] [[], [], [0, 1], [0, 1, 2], [0, 1, 2, 3], [], [], [5, 6], [5, 6, 7], [5, 6, 7, 8], [0, 1, 2, 3, 4, 5, 6, 7, 8, 9], [], [], [], [12, 13], [11, 12, 13, 14], [11, 12, 13, 14, 15], [11, 12, 13, 14, 15, 16], [0, 1, 2, 3, 4, 5, 6, 7, 8, 9, 10, 11, 12, 13, 14, 15, 16, 17], [], [0, 1, 2, 3, 4, 5, 6, 7, 8, 9, 10, 11, 12, 13, 14, 15, 16, 17, 18, 19]]
      [λv _=>v=.slice (some ⟨b,o,none⟩) n c,λv _=>v=.int .i64 (k:Int),λv _=>v=.pointer (some ⟨b,o+k,none⟩),λv _=>v=.int .u32 (x:Int),λv _=>v=.int .u64 (x:Int),λv _=>v=.slice (some ⟨V,R,none⟩) m d,λv _=>v=.int .i64 (j:Int),λv _=>v=.pointer (some ⟨V,R+j,none⟩),λv _=>v=.int .u32 (y:Int),λv _=>v=.int .u64 (y:Int),λv _=>v=.int .u64 ((x:Int)*y),λv _=>v=.slice (some ⟨w.heap.size,0,none⟩) (n+m) (n+m),λv _=>v=.int .i64 (k:Int),λv _=>v=.int .i64 (j:Int),λv _=>v=.int .i64 ((k:Int)+j),λv _=>v=.pointer (some ⟨w.heap.size,k+j,none⟩),λv _=>v=.int .u32 (z:Int),λv _=>v=.int .u64 (z:Int),λv _=>v=.int .u64 ((x:Int)*y+z),λv _=>v=.int .u64 (Z:Int),λv _=>v=.int .u64 ((x:Int)*y+z+Z)]
      rfl Zbz Zbz ?stab ?steps ?fin
     case stab=>exact .cons (Stab.eq _) (.cons (Stab.eq _) (.cons (Stab.eq _) (.cons (Stab.eq _) (.cons (Stab.eq _) (.cons (Stab.eq _) (.cons (Stab.eq _) (.cons (Stab.eq _) (.cons (Stab.eq _) (.cons (Stab.eq _) (.cons (Stab.eq _) (.cons (Stab.eq _) (.cons (Stab.eq _) (.cons (Stab.eq _) (.cons (Stab.eq _) (.cons (Stab.eq _) (.cons (Stab.eq _) (.cons (Stab.eq _) (.cons (Stab.eq _) (.cons (Stab.eq _) (.cons (Stab.eq _) .nil))))))))))))))))))))
     case steps=>
      refine .cons ?s0 (.cons ?s1 (.cons ?s2 (.cons ?s3 (.cons ?s4 (.cons ?s5 (.cons ?s6 (.cons ?s7 (.cons ?s8 (.cons ?s9 (.cons ?s10 (.cons ?s11 (.cons ?s12 (.cons ?s13 (.cons ?s14 (.cons ?s15 (.cons ?s16 (.cons ?s17 (.cons ?s18 (.cons ?s19 (.cons ?s20 .nil))))))))))))))))))))
      case s0=>
       intro O M X C t G p;have e0:M (.tmp 0)=.slice (some ⟨b,o,none⟩) n c:=t 0 ZbA;exact AA (by simp[execOp,e0,go_sem]) rfl
      case s1=>
       intro O M X C t G p;exact Zgw
      case s2=>
       intro O M X C t G p;have xA:M (.tmp 28)=.slice (some ⟨b,o,none⟩) n c:=C.1 _ rfl;have xJ:M (.tmp 29)=.int .i64 (k:Int):=C.2.1 _ rfl;exact AA (by simp[execOp,xA,xJ,xF,go_sem]) rfl
      case s3=>
       intro O M X C t G p;have xK:M (.tmp 30)=.pointer (some ⟨b,o+k,none⟩):=C.1 _ rfl;have P:O.cell? ⟨b,o+k,none⟩=some (.int .u32 (x:Int)):=X.cellv xE;exact AA (by simp[execOp,xK,P,go_sem]) rfl
      case s4=>
       intro O M X C t G p;have xL:M (.tmp 31)=.int .u32 (x:Int):=C.1 _ rfl;exact AA (by simp[execOp,xL,xB.out,go_sem]) rfl
      case s5=>
       intro O M X C t G p;have K:M (.tmp 1)=.slice (some ⟨V,R,none⟩) m d:=t 1 ZbA;exact AA (by simp[execOp,K,go_sem]) rfl
      case s6=>
       intro O M X C t G p;exact Zgx
      case s7=>
       intro O M X C t G p;have xN:M (.tmp 33)=.slice (some ⟨V,R,none⟩) m d:=C.1 _ rfl;have xO:M (.tmp 34)=.int .i64 (j:Int):=C.2.1 _ rfl;exact AA (by simp[execOp,xN,xO,xt,go_sem]) rfl
      case s8=>
       intro O M X C t G p;have xP:M (.tmp 35)=.pointer (some ⟨V,R+j,none⟩):=C.1 _ rfl;have P:O.cell? ⟨V,R+j,none⟩=some (.int .u32 (y:Int)):=X.cellv xs;exact AA (by simp[execOp,xP,P,go_sem]) rfl
      case s9=>
       intro O M X C t G p;have xQ:M (.tmp 36)=.int .u32 (y:Int):=C.1 _ rfl;exact AA (by simp[execOp,xQ,xC.out,go_sem]) rfl
      case s10=>
       intro O M X C t G p;have xM:M (.tmp 32)=.int .u64 (x:Int):=C.1 _ rfl;have xR:M (.tmp 37)=.int .u64 (y:Int):=C.2.1 _ rfl;exact AA (by simp[execOp,xM,xR,xg.out.1,go_sem]) rfl
      case s11=>
       intro O M X C t G p;have e5:M (.tmp 5)=.slice (some ⟨w.heap.size,0,none⟩) (n+m) (n+m):=t 5 ZbA;exact AA (by simp[execOp,e5,go_sem]) rfl
      case s12=>
       intro O M X C t G p;exact Zgw
      case s13=>
       intro O M X C t G p;exact Zgx
      case s14=>
       intro O M X C t G p;have xU:M (.tmp 40)=.int .i64 (k:Int):=C.1 _ rfl;have xV:M (.tmp 41)=.int .i64 (j:Int):=C.2.1 _ rfl;exact AA (by simp[execOp,xU,xV,xx.out,go_sem]) rfl
      case s15=>
       intro O M X C t G p;have xT:M (.tmp 39)=.slice (some ⟨w.heap.size,0,none⟩) (n+m) (n+m):=C.1 _ rfl;have xW:M (.tmp 42)=.int .i64 ((k:Int)+j):=C.2.1 _ rfl;exact AA (by simp[execOp,xT,xW,xG,xy.out,xH,xI,go_sem]) rfl
      case s16=>
       intro O M X C t G p;have xX:M (.tmp 43)=.pointer (some ⟨w.heap.size,k+j,none⟩):=C.1 _ rfl;have P:O.cell? ⟨w.heap.size,k+j,none⟩=some (.int .u32 (z:Int)):=X.cellv S;exact AA (by simp[execOp,xX,P,go_sem]) rfl
      case s17=>
       intro O M X C t G p;have xY:M (.tmp 44)=.int .u32 (z:Int):=C.1 _ rfl;exact AA (by simp[execOp,xY,xD.out,go_sem]) rfl
      case s18=>
       intro O M X C t G p;have xS:M (.tmp 38)=.int .u64 ((x:Int)*y):=C.1 _ rfl;have xZ:M (.tmp 45)=.int .u64 (z:Int):=C.2.1 _ rfl;exact AA (by simp[execOp,xS,xZ,xg.out.2.1,go_sem]) rfl
      case s19=>
       intro O M X C t G p;have e7:M (.tmp 7)=.int .u64 (Z:Int):=t 7 ZbA;exact AA ZdU rfl
      case s20=>
       intro O M X C t G p;have ya:M (.tmp 46)=.int .u64 ((x:Int)*y+z):=C.1 _ rfl;have yb:M (.tmp 47)=.int .u64 (Z:Int):=C.2.1 _ rfl;exact AA (by simp[execOp,ya,yb,xg.out.2.2.1,go_sem]) rfl
     case fin=>
      intro gf O X hF;have xu:=hF 20 _ rfl;simp only[List.length_cons,List.length_nil,Nat.reduceAdd,List.drop_succ_cons,List.drop_zero,List.take_succ_cons,List.take_zero,EM,Act.put,List.setIfInBounds_toArray,List.set_cons_succ,List.set_cons_zero,xu];replace X:=Ae ((Ext.refl _).drew.trans X);have xw:Hid (MulIn w O a l r n m k j x Z):=⟨g.out.1,g.out.2.1,g.out.2.2.1.ext X.out,g.out.2.2.2.1,g.out.2.2.2.2.trans X.out⟩;replace S:=X.out.cellv S;replace xh:=xw.out.2.2.1.frozen (k+j);clear hF xu X g xa xs xE xx xy xF xt xG xH xI xB xC xD;have xm:=Ae (xw.out.step (u:=((x:Int)*y+z+Z)%4294967296) (v:=((x:Int)*y+z+Z)/4294967296) xv Q N.out Y.out xf xi xj xl (by rw[Bn];simp) (by rw[Bn];simp));generalize (x:Int)*y+z+Z=T at *;go_wp2;exact⟨by first | exact xm.out | (rw[Int.emod_emod_of_dvd];exact xm.out),by simp[intOf];omega⟩
    .obtain rfl:j=m:=by omega
     have S:wr.cell? ⟨w.heap.size,k+j,none⟩=some (.int .u32 (r.getD (k+j) 0:Nat)):=by rw[g.out.2.2.1.cell,Dn (by rw[g.out.1];omega)]
     have xh:=g.out.2.2.1.frozen (k+j);have xe:=Ae (g.out.close Q xc.out.symm E.out xl);go_wp2;exact⟨⟨k+1,_,Q,by simp,xe⟩,by simp[intOf];omega⟩
  .obtain rfl:k=n:=by omega
   have hW:Hid (Words wr (.slice (some ⟨w.heap.size,0,none⟩) (k+m) (k+m)) r):=by
    exact ZgE
   have xe:Hid (val r=val a*val l):=by
    have u:=J.out.2.2.2.1;have er:r.take (k+m)=r:=List.take_of_length_le Zcb;have ea:a.take k=a:=List.take_of_length_le Zes;rw[er,ea]at u;exact u
   go_wp2_with (go_at_call 288;refine(EJ _ _ _ hW.out).mono ?_;rintro e O ⟨f,rfl,xd,X⟩);go_ret;refine⟨f,rfl,?_,J.out.2.2.2.2.trans X⟩;rw[AW J.out.2.1,xe.out]at xd;exact xd
theorem FT(Z z:Value)(x y:Nat)(w:World)(t:Words w Z (Ao x))(G:Words w z (Ao y)) :
  Calls Tryz.prog 276 #[Z,z] w λe O=>e=.returned (.int .i64 (EQ x y))/\Ext w O:=by
 obtain⟨A,c,rfl,I,j,F⟩:=t.open_;obtain⟨B,d,rfl,W,v,N⟩:=G.open_;clear t G;have f:=Ae F;have p:=Ae N;clear F N;obtain⟨n,s⟩:∃n,n=(Ao x).length:=⟨_,rfl⟩;obtain⟨m,a⟩:∃m,m=(Ao y).length:=⟨_,rfl⟩;rw[<-s]at I ⊢;rw[<-a]at W ⊢;replace s:=Ae s;replace a:=Ae a;rcases Nat.lt_trichotomy n m with Q | heq | hgt
 .have R:decide ((n:Int)<m)=true:=ZgC
  have P:decide ((m:Int)<n)=false:=ZgC
  go_enter Tryz.func276,Tryz.ntmps276;go_wp2;exact Zgg
 .subst heq
  have R:decide ((n:Int)<n)=false:=by simp
  go_enter Tryz.func276,Tryz.ntmps276;go_wp2;go_loopw [5] (λi wr=>∃k:Nat,k<=n/\i=.int .i64 ((k:Int)-1)/\Hid (Ext w wr/\∀i,k<=i->(Ao x).getD i 0=(Ao y).getD i 0)) (λi _=>(intOf i+1).toNat)
  case atStart=>exact Zap
  case round=>
   obtain⟨k,E,rfl,J⟩:=hrel;by_cases h:k=0
   .exact Zaq
   .obtain ⟨q, rfl⟩:∃q, k=q+1:=⟨k-1, by omega⟩
    obtain⟨b,o,rfl,G,S⟩:=f.out Zcl;replace S:=(J.out.1.cell (p:=⟨b,o+q,none⟩) G).trans (S q Zcl);obtain⟨M,L,rfl,V,l⟩:=p.out ZdL;replace l:=(J.out.1.cell (p:=⟨M,L+q,none⟩) V).trans (l q ZdL);generalize H:(Ao x).getD q 0=X at *;generalize T:(Ao y).getD q 0=Y at *;replace H:=Ae H;replace T:=Ae T;have g:((q+1:Nat):Int)-1=q:=by omega
    rw[g];rcases Nat.lt_trichotomy X Y with Q | heq | hgt
    .have r:decide ((X:Int)<Y)=true:=ZgC
     go_wp2;go_quiet (fail);go_wp2;go_ret;exact⟨by rw[Pn (k:=q) Zdh Zcl (λi K=>J.out.2 i K) (by rw[H.out,T.out];exact Q)];rfl,J.out.1.drewN _⟩
    .subst heq
     have r:decide ((X:Int)<X)=false:=by simp
     go_wp2;go_quiet (fail);go_wp2;go_quiet (fail);go_wp2;refine⟨⟨q,by omega,rfl,J.out.1.drewN _,λi K=>?_⟩,by simp[intOf]⟩;rcases Nat.lt_or_ge q i with u | u
     .exact J.out.2 i u
     .obtain rfl:i=q:=by omega
      rw[H.out,T.out]
    .have r:decide ((X:Int)<Y)=false:=ZgC
     have xa:decide ((Y:Int)<X)=true:=ZgC
     have U:¬((X:Int)<Y):=by omega
     go_wp2;go_quiet (fail);go_wp2;go_quiet (fail);go_wp2;exact Zfs
 .have R:decide ((n:Int)<m)=false:=ZgC
  have P:decide ((m:Int)<n)=true:=ZgC
  go_enter Tryz.func276,Tryz.ntmps276;go_wp2;exact ZfY
theorem Lv(N:Value)(K:List Nat)(d:Nat)(w:World)(F:Words w N K)(h:K.length<=4398046511104)(j:0<d)(l:d<4294967296) :
  Calls Tryz.prog 310 #[N,.int .u64 d] w λe O=>∃R,e=.returned (.tuple #[R,.int .u64 (val K%d:Nat)])/\Words O R (Ao (val K/d))/\Ext w O:=by
 obtain⟨A,c,rfl,G,m,C⟩:=F.open_;have g:=Ae F.small;clear F;have S:=Ae C;clear C;obtain⟨n,s⟩:∃n,n=K.length:=⟨_,rfl⟩;rw[<-s]at G h ⊢;replace s:=Ae s;have T:=λW=>Ce n Zbx .i64 .i64 W;go_enter Tryz.func310,Tryz.ntmps310;go_wp2;go_loopw [7,8] (λt i wr=>∃(k r:Nat) (q:List Nat),k<=n/\i=.int .i64 ((k:Int)-1)/\t=.int .u64 r/\r<d/\Hid (DsRel w wr K q d n k r)) (λ_ i _=>(intOf i+1).toNat)
 case atStart => exact Zax
 case round=>
  obtain⟨k,r,q,B,rfl,rfl,Y,J⟩:=hrel;by_cases z:k=0
  .subst z
   have L:Hid (Words wr (.slice (some ⟨w.heap.size,0,none⟩) n n) q):=by
    exact Zfy
   have Z:Hid (val K/d=val q/\val K%d=r):=Zay
   go_wp2_with (go_at_call 288;refine(EJ _ _ _ L.out).mono ?_;rintro e O ⟨R,rfl,Q,X⟩);go_ret2;refine⟨R,by rw[Z.out.2];rfl,?_,J.out.2.2.2.2.trans X⟩;rw[AW J.out.2.1,<-Z.out.1]at Q;exact Q
  .obtain ⟨k, rfl⟩:∃q, k=q+1:=⟨k-1, by omega⟩
   obtain⟨b,o,rfl,E,M⟩:=S.out Zcl;replace M:=(J.out.2.2.2.2.cell (p:=⟨b,o+k,none⟩) E).trans (M k Zcl);have V:=AK g.out k;have I:wr.cell? ⟨w.heap.size,k,none⟩=some (.int .u32 (q.getD k 0:Nat)):=Zhp
   have a:=J.out.2.2.1.frozen k;generalize C:K.getD k 0=x at *;replace C:=Ae C;unfold BB at V;have f:((k+1:Nat):Int)-1=k:=by omega
   rw[f];exact Zfg
theorem Nj(v:Value)(l:List Nat)(w:World)(h:Words w v l)(A:l.length<=2) :
  Calls Tryz.prog 315 #[v] w λe O=>e=.returned (.int .u64 (val l:Nat))/\w=O:=by
 have g:=AK h.small 0;have u:=AK h.small 1
 have o:Hid (val l=l.getD 0 0+BB*l.getD 1 0):=by
  match l,A with
  |[],_=>simp[val,Hid]
  |[a],_=>simp[val,Hid]
  |[a,b],_=>simp[val,Hid]
 replace h:=Ae h;generalize C:l.getD 0 0=x at *;generalize N:l.getD 1 0=y at *;replace C:=Ae C;replace N:=Ae N;unfold BB at g u;go_enter Tryz.func315,Tryz.ntmps315;go_wp2_with fail;refine(GE v l 1 y _ h.out N.out).mono ?_;rintro e B ⟨rfl,rfl⟩;go_wp2_with fail;refine(GE v l 0 x _ h.out C.out).mono ?_;rintro e B ⟨rfl,rfl⟩;go_wp2;go_ret;exact⟨by rw[o.out,Bn,show x+4294967296*y=y*4294967296+x by omega];rfl,rfl⟩
theorem UC(a b:Nat)(w:World)(t:a<18446744073709551616)(E:b<18446744073709551616) :
  Calls Tryz.prog 314 #[.int .u64 a,.int .u64 b] w λe O=>e=.returned (.int .u64 (Nat.gcd a b:Nat))/\w=O:=by
 go_enter Tryz.func314,Tryz.ntmps314;go_wp2;go_loop [0,1] (λx y=>∃p q:Nat,p<18446744073709551616/\q<18446744073709551616/\x=.int .u64 p/\y=.int .u64 q/\Hid (Nat.gcd p q=Nat.gcd a b)) (λ_ y=>(intOf y).toNat)
 case atStart=>exact⟨a,b,t,E,rfl,rfl,rfl⟩
 case round=>
  obtain⟨p,q,F,z,rfl,rfl,G⟩:=hrel;by_cases g:q=0
  .subst g
   go_wp2;go_ret;exact⟨by rw[<-G.out,Nat.gcd_zero_right];rfl,rfl⟩
  .have X:0<q:=by omega
   have W:decide ((0:Int)<q)=true:=by simpa using X
   obtain⟨r,Y⟩:∃r,r=p%q:=⟨_,rfl⟩;have S:(p:Int)%(q:Int)=(r:Int):=by rw[Y];rfl
   have Q:r<q:=by rw[Y];exact Nat.mod_lt _ X
   replace Y:=Ae Y;go_wp2;go_round
   case rel=>exact⟨q,r,z,by omega,rfl,by rw[<-S],by rw[Y.out,<-G.out,Nat.gcd_comm p q,Nat.gcd_rec q p];exact Nat.gcd_comm _ _⟩
   case measure=>simp[intOf];omega
theorem Win.ext{b:Nat}{pre x post:List Nat}(u:Win w b pre x post)(a:Ext w h):Win h b pre x post:=Blk.ext u a
theorem Only.ext{b:Nat}(u:Only b w h)(a:Ext h uA):Only b w uA:=⟨a.os.trans u.os,a.tape.trans u.tape,a.output.trans u.output,Nat.le_trans u.size a.size,λk B A=>(a.block (Nat.lt_of_lt_of_le B u.size)).trans (u.block k B A)⟩
def UE(w:World)(u v:List Nat)(e:Ending)(O:World):Prop:=∃q:Nat,e=.returned (.int .u64 q)/\q<BB/\val u/val v<=q/\q*val v<val u+val v/\Ext w O
def A57(w:World)(P k l:Nat)(u v:List Nat)(q r:Value)(t:World):Prop:=
 ∃A K:Nat,q=.int .u64 A/\r=.int .u64 K/\K<4294967296/\A<=8589934592/\Hid (A*P+K=l+BB*k/\val u/val v<=A)/\Hid (Ext w t)
set_option maxRecDepth 1000000 in
theorem Wf(b j ov n cu cv:Nat)(pre post u v:List Nat)(w:World)(x:Win w b pre u post)(E:u.length=n+1)(o:v.length=n)(xk:2<=n)(h:n<=4398046511104)(Z:Bt u)(L:Bt v)
  (xe:∀i,i<n->w.cell? ⟨j,ov+i,none⟩=some (.int .u32 (v.getD i 0:Nat))) (xm:n+1<=cu) (xi:n<=cv) (xg:2147483648<=v.getD (n-1) 0) (Q:val u<BB*val v) :
  Calls Tryz.prog 311 #[.slice (some ⟨b,pre.length,none⟩) (n+1) cu,.slice (some ⟨j,ov,none⟩) n cv] w (UE w u v):=by
 obtain⟨m,rfl⟩:∃m,n=m+2:=⟨n-2,by omega⟩;have p:=Ae (A3Q E o Z L Zdw Q);have xb:=x.cell (k:=m+2) Zbx;have d:=x.cell (k:=m+1) Zbx;have c:=x.cell (k:=m) Zbx;have U:=xe (m+1) Zbx;have f:=xe m Zbx;have xd:=AK Z (m+2);have xn:=AK Z (m+1);have xy:=AK Z m;have l:=AK L (m+1);have xf:=AK L m;have xz:2147483648<=v.getD (m+1) 0:=xg;generalize xs:u.getD (m+2) 0=t at *;generalize xt:u.getD (m+1) 0=y at *;generalize xr:u.getD m 0=U2 at *;generalize xu:v.getD (m+1) 0=K at *;generalize xv:v.getD m 0=V2 at *;replace xs:=Ae xs;replace xt:=Ae xt;replace xr:=Ae xr;replace xu:=Ae xu;replace xv:=Ae xv;unfold BB at xd xn xy l xf;replace x:=Ae x;replace E:=Ae E;replace o:=Ae o;replace Z:=Ae Z;replace L:=Ae L;replace xe:=Ae xe;replace Q:=Ae Q;clear xg;generalize X:pre.length=P at *;replace X:=Ae X;have s:m<=4398046511102:=by omega
 clear h xk;go_enter Tryz.func311,Tryz.ntmps311;go_wp2;go_quiet (fail)
 have g:Hid (((t:Int)*4294967296+y)/K=((y+BB*t)/K:Nat)/\((t:Int)*4294967296+y)%K=((y+BB*t)%K:Nat)):=by
  have e:(t:Int)*4294967296+y=((y+BB*t:Nat):Int):=by rw[Bn];omega
  exact Zgk
 go_upto_block 0 with(fail)
 rw[g.out.1,g.out.2];go_cut [7,8] (λq r wx=>∃qn:Nat,q=.int .u64 qn/\qn<4294967296/\Hid (val u/val v<=qn/\qn*val v<val u+val v)/\Hid (Ext w wx))
 case first=>
  go_wp2;go_loopw [7,8] (λq r wx=>A57 w K t y u v q r wx) (λq _ _=>(intOf q).toNat)
  case atStart=>
   have xa:0<K:=by omega
   refine⟨_,_,rfl,rfl,?_,?_,⟨?_,?_⟩,?_⟩
   .have:=Nat.mod_lt (y+BB*t) xa;omega
   .refine Nat.le_of_lt (Nat.div_lt_of_lt_mul ?_)
    have:2147483648*8589934592<=K*8589934592:=Nat.mul_le_mul_right _ xz;rw[Bn];omega
   .rw [Nat.mul_comm];exact Nat.div_add_mod _ _
   .exact p.out.start
   .exact (Ext.refl _).drewN _
  case round=>
   obtain⟨q,r,rfl,rfl,Y,z,J,G⟩:=hrel;have S:=G.out.cellv c;have a:wr.cell? ⟨j,ov+(m+1),none⟩=some (.int .u32 (K:Nat)):=G.out.cellv U;have H:wr.cell? ⟨j,ov+m,none⟩=some (.int .u32 (V2:Nat)):=G.out.cellv f;clear xb d c U f;have xw:=Ae (λM=>p.out.down J.out.1 J.out.2 (q:=q) (r:=r) M);have O:Hid (∀T C,T*K+C=y+BB*t->val u/val v<=T->T<BB->T*V2<=C*BB+U2->val u/val v<=T/\T*val v<val u+val v):=λT C A B I V=>⟨B,p.out.after A I V⟩;have xx:Hid (∀T C,T*K+C=y+BB*t->BB<=C->T<BB/\T*V2<=C*BB+U2):=λT C A B=>p.out.great A B;by_cases k:4294967296<=q
   .have xj:decide ((4294967296:Int)<=q)=true:=ZgC
    replace k:=Ae k;replace z:=Ae z;have W:=Ae (xw.out (.inl (by rw[Bn];exact k.out)));by_cases N:4294967296<=r+K
    .have xq:(4294967296:Int)<=(r:Int)+K:=by omega
     replace N:=Ae N;go_wp2;go_quiet (fail);have R:(1:Int)<=q:=by have:=k.out;omega
     have xl:(q:Int)<=8589934592:=by have:=z.out;omega
     clear xj;go_wp2;go_meet
     case rel=>
      exact ZeY
    .have xq:decide ((4294967296:Int)<=(r:Int)+K)=false:=ZgC
     replace N:=Ae N;go_wp2;go_quiet (fail);have R:(1:Int)<=q:=by have:=k.out;omega
     have xl:(q:Int)<=8589934592:=by have:=z.out;omega
     clear xj;exact Zfc
   .have xj:decide ((4294967296:Int)<=q)=false:=ZgC
    have xp:q<4294967296:=by omega
    replace k:=Ae k;replace z:=Ae z;have F:(q:Int)*V2<=18446744065119617025:=by have:=EI xp xf;omega
    have xc:(0:Int)<=(q:Int)*V2:=Int.mul_nonneg Zbx Zbx;by_cases xh:r*4294967296+U2<q*V2
    .have xo:decide ((r:Int)*4294967296+U2<(q:Int)*V2)=true:=ZgC
     have W:=Ae (xw.out (.inr (by rw[Bn];exact xh)));replace xh:=Ae xh;have R:(1:Int)<=q:=by have:=W.out.1;omega
     by_cases N:4294967296<=r+K
     .have xq:decide ((4294967296:Int)<=(r:Int)+K)=true:=ZgC
      replace N:=Ae N;go_wp2;go_quiet (fail);clear F xc xo xj;go_wp2;go_meet
      case rel=>
       exact ZeY
     .have xq:decide ((4294967296:Int)<=(r:Int)+K)=false:=ZgC
      replace N:=Ae N;go_wp2;go_quiet (fail);clear F xc xo xj;exact Zfc
    .have xo:decide ((r:Int)*4294967296+U2<(q:Int)*V2)=false:=ZgC
     replace xh:=Ae xh;go_wp2;go_quiet (fail);go_wp2;go_meet
     case rel=>exact⟨q,rfl,xp,O.out _ _ J.out.1 J.out.2 (by rw[Bn];exact xp) (by have:=xh.out;rw[Bn];omega),G.out.drewN _⟩
 case rest=>
  obtain⟨q,rfl,z,J,G⟩:=hcut;clear xb d c U f;go_wp2;go_ret;exact⟨q,rfl,by rw[Bn];exact z,J.out.1,J.out.2,G.out⟩
def LsRel(w wr:World)(b:Nat)(pre post u v x:List Nat)(n q k cy l:Nat):Prop:=
 x.length=n/\Bt x/\Win wr b pre x post/\Only b w wr/\val (x.take k)+q*val (v.take k)=val (u.take k)+BB^k*(cy+l)/\(∀i,k<=i->x.getD i 0=u.getD i 0)/\(v.length<k->cy=0)
theorem LsRel.step{pre post u v x:List Nat}{B q k cy l y z:Nat}(A:LsRel w h n pre post u v x B q k cy l)(F:k<B)(N:v.getD k 0=y)(Q:x.getD k 0=z)(Y:z<BB)(G:l<=1)(b:cy<BB){e:Int}
  (a:e=(z+BB*(if z<(q*y+cy)%BB+l then 1 else 0)-(q*y+cy)%BB-l:Nat)) :
  LsRel w (h.setCell ⟨n,pre.length+k,none⟩ (.int .u32 e)) n pre post u v (x.set k (z+BB*(if z<(q*y+cy)%BB+l then 1 else 0)-(q*y+cy)%BB-l)) B q (k+1) ((q*y+cy)/BB) (if z<(q*y+cy)%BB+l then 1 else 0):=by
 obtain⟨C,E,I,V,m,O,R⟩:=A;have s:=Nat.mod_lt (q*y+cy) Cp;have d:z+BB*(if z<(q*y+cy)%BB+l then 1 else 0)-(q*y+cy)%BB-l<BB:=by split<;>omega
 have c:z+BB*(if z<(q*y+cy)%BB+l then 1 else 0)-(q*y+cy)%BB-l+((q*y+cy)%BB+l)=z+BB*(if z<(q*y+cy)%BB+l then 1 else 0):=by split<;>omega
 generalize (if z<(q*y+cy)%BB+l then 1 else 0:Nat)=S at *;generalize H:z+BB*S-(q*y+cy)%BB-l=X at *;refine⟨by simpa using C,CN E k d,by rw[a];exact I.set Zbx X,V.set _ _,?_,λi K=>?_,λL=>?_⟩
 .rw [AO, CQ, BS Zbx, AO u, AO v, N, <-O k (Nat.le_refl _), Q]
  have M:=Nat.mod_add_div (q*y+cy) BB
  have U:BB^(k+1)*((q*y+cy)/BB+S)+BB^k*z=BB^k*X+q*(BB^k*y)+BB^k*(cy+l):=by
   have W:BB*((q*y+cy)/BB+S)+z=X+q*y+(cy+l):=ZfK
   rw[Nat.pow_succ,Nat.mul_assoc,<-Nat.mul_add,W,Nat.mul_add,Nat.mul_add,Nat.mul_left_comm q]
  rw[Nat.mul_add q];omega
 .rw [<-O i Zbx]
  exact Zaz
 .have Z:y=0:=by rw [<-N];simp [show v.length<=k by omega]
  rw[Z,Nat.mul_zero,Nat.zero_add];exact Nat.div_eq_of_lt b
theorem A4m{q y c z d:Nat}(u:z<4294967296)(W:d<=1) :
  (4294967296+(z:Int)-((q:Int)*y+c)%4294967296-d)%4294967296=((z+BB*(if z<(q*y+c)%BB+d then 1 else 0)-(q*y+c)%BB-d:Nat):Int) /\
  1-(4294967296+(z:Int)-((q:Int)*y+c)%4294967296-d)/4294967296=((if z<(q*y+c)%BB+d then 1 else 0:Nat):Int) /\
  ((q:Int)*y+c)/4294967296=(((q*y+c)/BB:Nat):Int)/\0<=4294967296+(z:Int)-((q:Int)*y+c)%4294967296-d/\4294967296+(z:Int)-((q:Int)*y+c)%4294967296-d<=8589934591:=by
 have e:(q:Int)*y+c=((q*y+c:Nat):Int):=by simp[Int.natCast_add,Int.natCast_mul]
 have s:=Nat.mod_lt (q*y+c) Cp;have v:((q:Int)*y+c)%4294967296=(((q*y+c)%BB:Nat):Int):=by rw[e,Bn,Int.natCast_emod];rfl
 have U:((q:Int)*y+c)/4294967296=(((q*y+c)/BB:Nat):Int):=by rw[e,Bn,Int.natCast_ediv];rfl
 rw[v,U];generalize (q*y+c)%BB=p at *;rw[Bn]at s ⊢;refine⟨?_,?_,rfl,by omega,by omega⟩<;>(split<;>omega)
def A3i(w:World)(b:Nat)(pre post u v:List Nat)(q:Nat)(e:Ending)(O:World):Prop:=
 ∃x:List Nat,e=.returned (.bool (decide (val u<q*val v)))/\x.length=u.length/\Bt x/\Win O b pre x post/\Only b w O/\val x+q*val v=val u+BB^u.length*(if val u<q*val v then 1 else 0)
theorem LsRel.close{b:Nat}{pre post u v x:List Nat}{n q cy l:Nat}(A:LsRel w h b pre post u v x n q n cy l)(M:u.length=n)(o:v.length<n)(E:l<=1):l=(if val u<q*val v then 1 else 0)/\val x+q*val v=val u+BB^n*(if val u<q*val v then 1 else 0):=by
 obtain⟨B,C,I,V,m,y,e⟩:=A;rw[List.take_of_length_le Zbx,List.take_of_length_le Zbx,List.take_of_length_le Zbx,e o,Nat.zero_add]at m;have k:=Dr C;rw[B]at k
 have key:l=(if val u<q*val v then 1 else 0):=by
  rcases Nat.eq_zero_or_pos l with g | g
  .subst g;rw[if_neg Zbx]
  .have:l=1:=by omega
   subst this;rw[if_pos Zbx]
 exact⟨key,by rw[<-key];exact m⟩
theorem UB(b n j:Nat)(H:Value)(pre post u v:List Nat)(q P:Nat)(w:World)(X:pre.length=P)(L:Win w b pre u post)(M:u.length=n)(o:v.length<n)(E:n<=4398046511105)(Z:Bt u)(R:Bt v)
  (t:∀wr,Only b w wr->Words wr H v) (xa:n<=j) (I:q<BB) :
  Calls Tryz.prog 312 #[.slice (some ⟨b,P,none⟩) n j,H,.int .u64 q] w (A3i w b pre post u v q):=by
 replace L:=Ae L;replace M:=Ae M;replace Z:=Ae Z;replace R:=Ae R;replace t:=Ae t;replace X:=Ae X;replace o:=Ae o;unfold BB at I;go_enter Tryz.func312,Tryz.ntmps312;go_wp2;go_loopw [7,8,9] (λV O i wr=>∃(k c d:Nat) (x:List Nat),k<=n/\i=.int .i64 k/\V=.int .u64 c/\O=.int .u64 d/\c<4294967296/\d<=1/\Hid (LsRel w wr b pre post u v x n q k c d)) (λ_ _ i _=>n-(intOf i).toNat)
 case atStart=>exact⟨0,0,0,u,Nat.zero_le _,rfl,rfl,rfl,by omega,by omega,M.out,Z.out,L.out,Only.refl _ _,by simp[val],λ_ _=>rfl,λh=>by omega⟩
 case round=>
  obtain⟨k,c,d,x,C,rfl,rfl,rfl,J,p,l⟩:=hrel;by_cases Q:k<n
  .have s:decide ((k:Int)<n)=true:=by simpa using Q
   have W:wr.cell? ⟨b,P+k,none⟩=some (.int .u32 (x.getD k 0:Nat)):=by
    exact ZfZ
   have f:=l.out.2.2.1.frozen (P+k);have S:=AK R.out k;have Y:=AK l.out.2.1 k;generalize N:v.getD k 0=y at *;generalize K:x.getD k 0=z at *;replace N:=Ae N;replace K:=Ae K;unfold BB at S Y;have F:(q:Int)*y<=18446744065119617025:=by have:=EI I S;omega
   have m:(0:Int)<=(q:Int)*y:=Int.mul_nonneg Zbx Zbx;have U:=Ae (A4m (q:=q) (y:=y) (c:=c) (z:=z) (d:=d) Y p)
   have xb:Hid ((q*y+c)/BB<4294967296):=by
    have:=EI I S;show _/BB<4294967296;rw[Bn];omega
   have G:=Ae (l.out.step Q N.out K.out (by rw[Bn];exact Y) p (cy:=c) (by rw[Bn];exact J) rfl);rw[X.out]at G;go_wp2_with fail;refine(GE H v k y _ (t.out _ l.out.2.2.2.1) N.out).mono ?_;rintro e a ⟨rfl,rfl⟩;clear l;obtain⟨T,g⟩:∃T:Int,T=(q:Int)*y+c:=⟨_,rfl⟩;have xf:T<=18446744073709551615:=by omega
   have xe:0<=T:=by omega
   rw[<-g]at U;replace g:=Ae g;have xc:0<=4294967296+(z:Int)-T%4294967296-d:=U.out.2.2.2.1;have xd:4294967296+(z:Int)-T%4294967296-d<=8589934591:=U.out.2.2.2.2;go_upto_region 7 with(fail)
   rw[<-g.out];clear F m;go_wp2;rw[U.out.1,U.out.2.1,U.out.2.2.1];exact⟨⟨k+1,_,_,_,Q,by simp,rfl,rfl,xb.out,by split<;>omega,G.out⟩,by simp[intOf];omega⟩
  .obtain rfl:k=n:=by omega
   have s:decide ((k:Int)<k)=false:=by simp
   obtain⟨A,B⟩:=l.out.close M.out o.out p;replace A:=Ae A;replace B:=Ae B;rcases(show d=0\/d=1 by omega)with rfl | rfl
   .go_wp2
    go_ret;have r:¬val u<q*val v:=λh=>by have:=A.out;rw[if_pos h]at this;omega
    exact Zhs
   .go_wp2
    go_ret
    have r:val u<q*val v:=by
     rcases Nat.lt_or_ge (val u) (q*val v)with h | h
     .exact h
     .have:=A.out;rw[if_neg Zbx]at this;omega
    exact Zhs
def RsRel(w wr:World)(b:Nat)(pre post r v x:List Nat)(n k L:Nat):Prop:=
 x.length=n/\Bt x/\Win wr b pre x post/\Only b w wr/\val (x.take k)+BB^k*L=val (r.take k)+val (v.take k)/\∀i,k<=i->x.getD i 0=r.getD i 0
theorem RsRel.step{pre post r v x:List Nat}{A k O y z:Nat}(u:RsRel w h n pre post r v x A k O)(E:k<A)(N:v.getD k 0=y)(M:x.getD k 0=z)(Q:y<BB)(R:z<BB)(G:O<=1){e:Int}(a:e=((z+y+O)%BB:Nat)) :
  RsRel w (h.setCell ⟨n,pre.length+k,none⟩ (.int .u32 e)) n pre post r v (x.set k ((z+y+O)%BB)) A (k+1) ((z+y+O)/BB)/\(z+y+O)/BB<=1:=ZaA
def A3h(w:World)(b:Nat)(pre post u v:List Nat)(e:Ending)(O:World):Prop:=
 ∃(x:List Nat) (c:Nat),e=.returned (.tuple #[])/\x.length=u.length/\Bt x/\Win O b pre x post/\Only b w O/\val x+BB^u.length*c=val u+val v/\c<=1
theorem SF(b n r:Nat)(vv:Value)(pre post u v:List Nat)(P:Nat)(w:World)(E:pre.length=P)(I:Win w b pre u post)(M:u.length=n)(o:v.length<=n)(h:n<=4398046511105)(g:Bt u)(R:Bt v)
  (xa:∀wr,Only b w wr->Words wr vv v) (xd:n<=r) :
  Calls Tryz.prog 313 #[.slice (some ⟨b,P,none⟩) n r,vv] w (A3h w b pre post u v):=by
 replace I:=Ae I;replace M:=Ae M;replace g:=Ae g;replace R:=Ae R;replace xa:=Ae xa;replace E:=Ae E;replace o:=Ae o;go_enter Tryz.func313,Tryz.ntmps313;go_wp2;go_loopw [4,5] (λV i wr=>∃(k c:Nat) (x:List Nat),k<=n/\i=.int .i64 k/\V=.int .u64 c/\c<=1/\Hid (RsRel w wr b pre post u v x n k c)) (λ_ i _=>n-(intOf i).toNat)
 case atStart=>exact⟨0,0,u,Nat.zero_le _,rfl,rfl,by omega,M.out,g.out,I.out,Only.refl _ _,by simp[val],λ_ _=>rfl⟩
 case round=>
  obtain⟨k,c,x,B,rfl,rfl,xb,l⟩:=hrel;by_cases Q:k<n
  .have T:decide ((k:Int)<n)=true:=by simpa using Q
   have W:wr.cell? ⟨b,P+k,none⟩=some (.int .u32 (x.getD k 0:Nat)):=by
    have:=l.out.2.2.1.cell (k:=k) ZcW;rw[E.out]at this;exact this
   have S:=AK R.out k;have Y:=AK l.out.2.1 k;generalize N:v.getD k 0=y at *;generalize C:x.getD k 0=z at *;replace N:=Ae N;replace C:=Ae C;unfold BB at S Y;have xn:=Ae (xa.out _ l.out.2.2.2.1);have K:¬n<=k:=by omega
   have H:Hid (IntKind.u64.wrap (z:Int)=z):=Ae (IntWalk.u64_in _ Zbx);have s:Hid (IntKind.u64.wrap ((z:Int)+y)=(z:Int)+y):=Ae (IntWalk.u64_in _ Zbx);have J:Hid (IntKind.u64.wrap ((z:Int)+y+c)=(z:Int)+y+c):=Ae (IntWalk.u64_in _ Zbx);go_upto_region 4 with(fail)
   refine wp_region_v Zbz [[], [], [(13, 0), (14, 1)], [(15, 2)], [(16, 3)], [], [], [(18, 5), (19, 6)], [(17, 4), (20, 7)], [], [(21, 8), (22, 9)]] [[], [], [0, 1], [0, 1, 2], [0, 1, 2, 3], [], [], [5, 6], [0, 1, 2, 3, 4, 5, 6, 7], [], [0, 1, 2, 3, 4, 5, 6, 7, 8, 9]]
    [λv _=>v=.slice (some ⟨b,P,none⟩) n r,λv _=>v=.int .i64 (k:Int),λv _=>v=.pointer (some ⟨b,P+k,none⟩),λv _=>v=.int .u32 (z:Int),λv _=>v=.int .u64 (z:Int),λv _=>v=vv,λv _=>v=.int .i64 (k:Int),λv _=>v=.int .u64 (y:Int),λv _=>v=.int .u64 ((z:Int)+y),λv _=>v=.int .u64 (c:Int),λv _=>v=.int .u64 ((z:Int)+y+c)]
    rfl Zbz Zbz ?stab ?steps ?fin
   case stab=>exact .cons (Stab.eq _) (.cons (Stab.eq _) (.cons (Stab.eq _) (.cons (Stab.eq _) (.cons (Stab.eq _) (.cons (Stab.eq _) (.cons (Stab.eq _) (.cons (Stab.eq _) (.cons (Stab.eq _) (.cons (Stab.eq _) (.cons (Stab.eq _) .nil))))))))))
   case steps=>
    refine .cons ?s0 (.cons ?s1 (.cons ?s2 (.cons ?s3 (.cons ?s4 (.cons ?s5 (.cons ?s6 (.cons ?s7 (.cons ?s8 (.cons ?s9 (.cons ?s10 .nil))))))))))
    case s0=>
     intro O j X B t G p;have f:j (.tmp 0)=.slice (some ⟨b,P,none⟩) n r:=t 0 ZbA;exact AA (by simp[execOp,f,go_sem]) rfl
    case s1=>
     intro O j X B t G p;exact ZfS
    case s2=>
     intro O j X B t G p;have xf:j (.tmp 13)=.slice (some ⟨b,P,none⟩) n r:=B.1 _ rfl;have xo:j (.tmp 14)=.int .i64 (k:Int):=B.2.1 _ rfl;exact AA (by simp[execOp,xf,xo,K,go_sem]) rfl
    case s3=>
     intro O j X B t G p;have xg:j (.tmp 15)=.pointer (some ⟨b,P+k,none⟩):=B.1 _ rfl;have F:O.cell? ⟨b,P+k,none⟩=some (.int .u32 (z:Int)):=X.cellv W;exact AA (by simp[execOp,xg,F,go_sem]) rfl
    case s4=>
     intro O j X B t G p;have xh:j (.tmp 16)=.int .u32 (z:Int):=B.1 _ rfl;exact AA (by simp[execOp,xh,H.out,go_sem]) rfl
    case s5=>
     intro O j X B t G p;have d:j (.tmp 1)=vv:=t 1 ZbA;exact AA Zea rfl
    case s6=>
     intro O j X B t G p;exact ZfS
    case s7=>
     intro O j X B t G p;have xj:j (.tmp 18)=vv:=B.1 _ rfl;have xk:j (.tmp 19)=.int .i64 (k:Int):=B.2.1 _ rfl;refine CD (by simp[execOp,resolve,invoke,p,xj,xk,go_sem]) (GE _ v k y _ (xn.out.ext ((Ext.refl _).drew.trans X)) N.out) ?_;rintro e a ⟨rfl,rfl⟩;exact⟨_,rfl,Ext.refl _,rfl⟩
    case s8=>
     intro O j X B t G p;have xi:j (.tmp 17)=.int .u64 (z:Int):=B.1 _ rfl;have xe:j (.tmp 20)=.int .u64 (y:Int):=B.2.1 _ rfl;exact AA (by simp[execOp,xi,xe,s.out,go_sem]) rfl
    case s9=>
     intro O j X B t G p;have L:j (.tmp 4)=.int .u64 (c:Int):=t 4 ZbA;exact AA (by simp[execOp,L,go_sem]) rfl
    case s10=>
     intro O j X B t G p;have xl:j (.tmp 21)=.int .u64 ((z:Int)+y):=B.1 _ rfl;have xm:j (.tmp 22)=.int .u64 (c:Int):=B.2.1 _ rfl;exact AA (by simp[execOp,xl,xm,J.out,go_sem]) rfl
   case fin=>
    intro gf O X hF;have xc:=hF 10 _ rfl;simp only[List.length_cons,List.length_nil,Nat.reduceAdd,List.drop_succ_cons,List.drop_zero,List.take_succ_cons,List.take_zero,EM,Act.put,List.setIfInBounds_toArray,List.set_cons_succ,List.set_cons_zero,xc];replace X:=(Ext.refl wr).drew.trans X;have U:RsRel w O b pre post u v x n k c:=⟨l.out.1,l.out.2.1,l.out.2.2.1.ext X,l.out.2.2.2.1.ext X,l.out.2.2.2.2.1,l.out.2.2.2.2.2⟩;have xp:=X.cellv W;have q:=U.2.2.1.frozen (P+k);have A:=Ae (U.step Q N.out C.out (by rw[Bn];exact S) (by rw[Bn];exact Y) xb (e:=((z:Int)+y+c)%4294967296) Zcr);rw[E.out]at A;clear hF xc X l U W xn s J H;go_wp2;exact⟨⟨k+1,(z+y+c)/BB,_,Q,by simp,by rw[Bn];congr 1,A.out.2,A.out.1⟩,by simp[intOf];omega⟩
  .obtain rfl:k=n:=by omega
   have T:decide ((k:Int)<k)=false:=by simp
   have m:=l.out.2.2.2.2.1;rw[List.take_of_length_le ZcW,List.take_of_length_le (by rw[M.out];omega),List.take_of_length_le o.out]at m;replace m:=Ae m;go_wp2;refine bodyPost_ret (v:=.tuple #[]) (by simp[results,Tryz.results313,go_sem]) rfl ?_;exact⟨x,c,rfl,l.out.1.trans M.out.symm,l.out.2.1,l.out.2.2.1,l.out.2.2.2.1,by rw[M.out];exact m.out,xb⟩
end
end Go.Proofs.YtcikkglcoeedlaaGreat
