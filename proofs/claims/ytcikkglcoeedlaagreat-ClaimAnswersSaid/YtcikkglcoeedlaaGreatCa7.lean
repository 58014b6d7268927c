/- Part 7 of the proof of claimAnswers_holds. No condition. -/
import Derived.Deep.CutBlock
import Derived.Deep.DeepCutAuto
import Derived.Test.YtcikkglcoeedlaaGreatCa1
import Derived.Test.YtcikkglcoeedlaaGreatCa2
set_option linter.unusedSimpArgs false
set_option linter.unusedVariables false
set_option maxRecDepth 100000
set_option maxHeartbeats 2000000
namespace Go.Proofs.YtcikkglcoeedlaaGreat
variable{l f:List Nat}{n:Nat}{w p uz:World}
section
open Go.RowKit
theorem Ds{k:Nat}(h:k<l.length):val (l.drop k)=l.getD k 0+BB*val (l.drop (k+1)):=by
 rw[List.drop_eq_getElem_cons h];simp[val,h]
theorem JL{k x:Nat}:(l.set k x).drop (k+1)=l.drop (k+1):=by
 rw[List.drop_set];simp
theorem Ki{r x:Nat}(b:r<4294967296)(E:x<4294967296):bits .or .u64 ((r:Int)*4294967296) (x:Int)=(r:Int)*4294967296+x:=by
 have h:=Pv (q:=x) (x:=r) E b
 have B:bits .or .u64 ((r:Int)*4294967296) (x:Int)=bits .or .u64 (x:Int) ((r:Int)*4294967296):=by
  show IntKind.u64.wrap ((BitVec.ofInt 64 ((r:Int)*4294967296) ||| BitVec.ofInt 64 (x:Int)).toNat:Int)=IntKind.u64.wrap ((BitVec.ofInt 64 (x:Int) ||| BitVec.ofInt 64 ((r:Int)*4294967296)).toNat:Int);rw[BitVec.or_comm]
 rw[B,h];omega
def DsRel(w wr:World)(N q:List Nat)(d n k r:Nat):Prop:=
 q.length=n/\BD q/\Blk wr w.heap.size 335 (wv q)/\val (N.drop k)=val (q.drop k)*d+r/\Ext w wr
theorem DsRel.step{N q:List Nat}{d n k r x:Nat}(h:DsRel w p N q d n (k+1) r)(C:k<n)(i:N.length=n)(E:N.getD k 0=x)(Z:0<d)(b:r<d)(M:d<4294967296)(J:x<4294967296){u:Int}(G:u=((r*4294967296+x)/d:Nat)) :
  DsRel w (p.setCell ⟨w.heap.size,k,none⟩ (.int .u32 u)) N (q.set k ((r*4294967296+x)/d)) d n k ((r*4294967296+x)%d):=by
 obtain⟨A,B,L,V,m⟩:=h
 have F:(r*4294967296+x)/d<BB:=by
  rw[Br];refine Nat.div_lt_of_lt_mul ?_;exact Zhq
 refine⟨by simpa using A,CQ B k F,by rw[G,<-If];exact L.set k _,?_,m.set (Nat.le_refl _) _⟩;rw[Ds (l:=N) (k:=k) ZbK,Ds (l:=q.set k _) (k:=k) (by rw[List.length_set];omega),JL,BX ZbK,E,V,<-Br];have e:=Nat.div_add_mod (r*BB+x) d;rw[Nat.add_mul,Nat.mul_add,Nat.mul_assoc BB];have v:d*((r*BB+x)/d)=(r*BB+x)/d*d:=Nat.mul_comm _ _;have I:BB*r=r*BB:=Nat.mul_comm _ _;omega
theorem WV{r x d:Nat}(b:r<d)(E:x<4294967296)(Z:d<4294967296) :
  ((r:Int)*4294967296+x)/d%4294967296=((r*4294967296+x)/d:Nat)/\((r:Int)*4294967296+x)%d=((r*4294967296+x)%d:Nat):=by
 have e:(r:Int)*4294967296+x=((r*4294967296+x:Nat):Int):=by omega
 rw[e,<-Int.natCast_ediv,<-Int.natCast_emod]
 have F:(r*4294967296+x)/d<4294967296:=by
  refine Nat.div_lt_of_lt_mul ?_;exact Zhq
 generalize (r*4294967296+x)/d=q at *;exact⟨by omega,rfl⟩
theorem Ob(j:Value)(L:List Nat)(d:Nat)(w:World)(s:Words w j L)(J:L.length<=4398046511104)(f:0<d)(g:d<4294967296) :
  Calls Tryz.prog 325 #[j,.int .u64 d] w λe N=>∃M,e=.returned (.tuple #[M,.int .u64 (val L%d:Nat)])/\Words N M (Aq (val L/d))/\Ext w N:=by
 obtain⟨A,c,rfl,I,P,E⟩:=s.open_;have Z:=Ae s.small;clear s;have R:=Ae E;clear E;obtain⟨n,O⟩:∃n,n=L.length:=⟨_,rfl⟩;rw[<-O]at I J ⊢;replace O:=Ae O;have l:=λW=>Cj n ZbK .i64 .i64 W;go_enter Tryz.func325,Tryz.ntmps325;go_wp2;go_loopw [7,8] (λt i wr=>∃(k r:Nat) (q:List Nat),k<=n/\i=.int .i64 ((k:Int)-1)/\t=.int .u64 r/\r<d/\Hid (DsRel w wr L q d n k r)) (λ_ i _=>(intOf i+1).toNat)
 case atStart => exact Zay
 case round=>
  obtain⟨k,r,q,C,rfl,rfl,G,T⟩:=hrel;by_cases U:k=0
  .subst U
   have v:Hid (Words wr (.slice (some ⟨w.heap.size,0,none⟩) n n) q):=by
    exact Zgp
   have V:Hid (val L/d=val q/\val L%d=r):=Zaz
   go_wp2_with (go_at_call 287;refine(DA _ _ _ v.out).mono ?_;rintro e N ⟨M,rfl,a,S⟩);go_ret2;refine⟨M,by rw[V.out.2];rfl,?_,T.out.2.2.2.2.trans S⟩;rw[AU T.out.2.1,<-V.out.1]at a;exact a
  .obtain ⟨k, rfl⟩:∃q, k=q+1:=⟨k-1, by omega⟩
   obtain⟨b,o,rfl,F,Q⟩:=R.out Zdq;replace Q:=(T.out.2.2.2.2.cell (p:=⟨b,o+k,none⟩) F).trans (Q k Zdq);have h:=AI Z.out k;have K:wr.cell? ⟨w.heap.size,k,none⟩=some (.int .u32 (q.getD k 0:Nat)):=Ziy
   have X:=T.out.2.2.1.frozen k;generalize E:L.getD k 0=x at *;replace E:=Ae E;unfold BB at h;have Y:((k+1:Nat):Int)-1=k:=by omega
   rw[Y];have m:=Ki (r:=r) (x:=x) ZbK h;exact ZfQ
def ShlRel(w wr:World)(N r:List Nat)(s n k K:Nat):Prop:=
 r.length=n+1/\BD r/\Blk wr w.heap.size 335 (wv r)/\val (r.take k)+BB^k*K=2^s*val (N.take k)/\Ext w wr
theorem Uq{s:Nat}(f:s<32):2^s<=2147483648:=by
 have:2^s<=2^31:=Nat.pow_le_pow_right ZbK ZbK;exact Ziz
theorem A3k{x s K:Nat}(E:x<4294967296)(f:s<32)(I:K<2^s):bits .or .u64 (IntKind.u64.wrap ((x:Int)*2^s)) (K:Int)=((x*2^s+K:Nat):Int):=by
 have G:=Uq f;have Q:x*2^s<=4294967296*2147483648:=Nat.mul_le_mul ZbK G;have c:(x:Int)*2^s=((x*2^s:Nat):Int):=by simp[Int.natCast_mul,Int.natCast_pow]
 have v:IntKind.u64.wrap ((x:Int)*2^s)=((x*2^s:Nat):Int):=by rw[c,IntKind.wrap_u64];omega
 have B:(x*2^s) ||| K=x*2^s+K:=by
  have:=Nat.shiftLeft_add_eq_or_of_lt I x;rw[Nat.shiftLeft_eq]at this;omega
 rw[v,u64_or_nat _ _ ZbK ZbK,B]
theorem ShlRel.step{N r:List Nat}{s n k K x:Nat}(h:ShlRel w p N r s n k K)(C:k<n)(E:N.getD k 0=x)(Q:x<4294967296)(f:s<32)(I:K<2^s){u z:Int}(M:u=((x*2^s+K)%BB:Nat))(J:z=((x*2^s+K)/BB:Nat)) :
  ∃(R c:Nat) (g:List Nat),R<=n/\Value.int .i64 ((k:Int)+1)=.int .i64 R/\Value.int .u64 z=.int .u64 c/\c<4294967296/\Hid (c<2^s)/\Hid (ShlRel w (p.setCell ⟨w.heap.size,k,none⟩ (.int .u32 u)) N g s n R c):=by
 obtain⟨A,B,L,V,m⟩:=h;have G:=Uq f
 have F:(x*2^s+K)/BB<2^s:=by
  refine Nat.div_lt_of_lt_mul ?_;rw[Br];have:(x+1)*2^s<=4294967296*2^s:=Nat.mul_le_mul_right _ Q;rw[Nat.add_mul,Nat.one_mul]at this;omega
 refine⟨k+1,(x*2^s+K)/BB,r.set k ((x*2^s+K)%BB),C,by simp,by rw[J],by omega,F,by simpa using A,CQ B k (Nat.mod_lt _ Cv),by rw[M,<-If];exact L.set k _,?_,m.set (Nat.le_refl _) _⟩;rw[AM,CS,BX ZbK,AM N,E,Nat.mul_add];have e:=Nat.mod_add_div (x*2^s+K) BB
 have v:BB^k*((x*2^s+K)%BB)+BB^(k+1)*((x*2^s+K)/BB)=BB^k*(x*2^s+K):=by
  rw[Nat.pow_succ,Nat.mul_assoc,<-Nat.mul_add,e]
 have O:BB^k*(x*2^s+K)=2^s*(BB^k*x)+BB^k*K:=by
  rw[Nat.mul_add,<-Nat.mul_assoc,Nat.mul_comm (BB^k*x)]
 omega
theorem ShlRel.close{N r:List Nat}{s n K:Nat}(h:ShlRel w p N r s n n K)(i:N.length=n)(I:K<4294967296) :
  (r.set n K).length=n+1/\BD (r.set n K)/\Blk (p.setCell ⟨w.heap.size,n,none⟩ (.int .u32 (K:Int))) w.heap.size 335 (wv (r.set n K))/\val (r.set n K)=2^s*val N/\Ext w (p.setCell ⟨w.heap.size,n,none⟩ (.int .u32 (K:Int))):=by
 obtain⟨A,B,L,V,m⟩:=h;have W:N.take n=N:=List.take_of_length_le ZbK;rw[W]at V;have X:(r.set n K).take (n+1)=r.set n K:=List.take_of_length_le Zhz;refine⟨by simpa using A,CQ B n (by rw[Br];exact I),by rw[<-If];exact L.set n _,?_,m.set (Nat.le_refl _) _⟩;rw[<-X,AM,CS,BX ZbK,V]
theorem KO(j:Value)(L:List Nat)(s:Nat)(w:World)(G:Words w j L)(B:L.length<=4398046511104)(f:s<32) :
  Calls Tryz.prog 327 #[j,.int .i64 s] w λe N=>∃(g:Nat) (r:List Nat),e=.returned (.slice (some ⟨g,0,none⟩) (L.length+1) (L.length+1))/\r.length=L.length+1/\BD r/\w.heap.size<=g/\Blk N g 335 (wv r)/\val r=2^s*val L/\Ext w N:=by
 obtain⟨A,c,rfl,I,P,E⟩:=G.open_;have Y:=Ae G.small;clear G;have O:=Ae E;clear E;obtain⟨n,t⟩:∃n,n=L.length:=⟨_,rfl⟩;rw[<-t]at I B ⊢;replace t:=Ae t;have a:=λW=>Cj (n+1) ZbK .i64 .i64 W;simp only[Int.natCast_add,Int.natCast_one]at a;go_enter Tryz.func327,Tryz.ntmps327;go_wp2;go_loopw [6,15] (λX i wr=>∃(k K:Nat) (r:List Nat),k<=n/\i=.int .i64 k/\X=.int .u64 K/\K<4294967296/\Hid (K<2^s)/\Hid (ShlRel w wr L r s n k K)) (λ_ i _=>n-(intOf i).toNat)
 case atStart=>exact⟨0,0,List.replicate (n+1) 0,Nat.zero_le _,rfl,rfl,by omega,Nat.two_pow_pos s,⟨by simp,Cc _,Blk.new _ _ _,by simp[val],(Ext.refl _).alloc _⟩⟩
 case round=>
  obtain⟨k,K,r,C,rfl,rfl,d,Z,T⟩:=hrel;by_cases Q:k<n
  .obtain ⟨b, o, rfl, F, M⟩:=O.out (by rw [<-t.out]; omega)
   replace M:=(T.out.2.2.2.2.cell (p:=⟨b,o+k,none⟩) F).trans (M k Zdc);have h:=AI Y.out k;have J:wr.cell? ⟨w.heap.size,k,none⟩=some (.int .u32 (r.getD k 0:Nat)):=Ziy
   have S:=T.out.2.2.1.frozen k;generalize E:L.getD k 0=x at *;replace E:=Ae E;unfold BB at h;have V:=A3k h f Z.out;replace V:=Ae V;go_wp2;rw[V.out];exact⟨T.out.step Q E.out h f Z.out ZcJ ZcJ,by simp[intOf];omega⟩
  .obtain rfl:k=n:=by omega
   have J:wr.cell? ⟨w.heap.size,k,none⟩=some (.int .u32 (r.getD k 0:Nat)):=Ziy
   have S:=T.out.2.2.1.frozen k;have R:=Ae (T.out.close t.out.symm d);go_wp2;go_ret;exact⟨w.heap.size,_,rfl,R.out.1,R.out.2.1,Nat.le_refl _,R.out.2.2.1,R.out.2.2.2.1,R.out.2.2.2.2⟩
theorem A4c{t s:Nat}(J:t<18446744073709551616)(f:s<32):bits .and .u64 (t:Int) ((2^s-1:Nat):Int)=((t%2^s:Nat):Int):=by
 have G:=Uq f;rw[u64_and_nat _ _ J ZbK,Nat.and_two_pow_sub_one_eq_mod]
theorem A3j{r x s:Nat}(b:r<2^s)(E:x<4294967296)(f:s<32) :
  ((r:Int)*4294967296+x)/2^s%4294967296=((r*4294967296+x)/2^s:Nat) /\
  bits .and .u64 ((r:Int)*4294967296+x) (IntKind.u64.wrap (IntKind.u64.wrap (2^s)-1))=((r*4294967296+x)%2^s:Nat):=by
 have G:=Uq f;have A:=Nat.two_pow_pos s;have e:((2:Int)^s)=((2^s:Nat):Int):=by simp[Int.natCast_pow]
 constructor
 .rw [e];exact(WV b E ZbK).1
 .have c:IntKind.u64.wrap (IntKind.u64.wrap (2^s)-1)=((2^s-1:Nat):Int):=by
   rw[e];simp only[IntKind.wrap_u64];omega
  have v:(r:Int)*4294967296+x=((r*4294967296+x:Nat):Int):=by omega
  rw[c,v,A4c ZbK f]
theorem Pc(j:Value)(M:List Nat)(s:Nat)(w:World)(K:Words w j M)(J:M.length<=4398046511104)(f:s<32) :
  Calls Tryz.prog 329 #[j,.int .i64 s] w λe N=>∃O,e=.returned O/\Words N O (Aq (val M/2^s))/\Ext w N:=by
 obtain⟨A,c,rfl,I,P,E⟩:=K.open_;have g:=Ae K.small;clear K;have V:=Ae E;clear E;obtain⟨n,Q⟩:∃n,n=M.length:=⟨_,rfl⟩;rw[<-Q]at I J ⊢;replace Q:=Ae Q;have l:0<2^s:=Nat.two_pow_pos s;have m:2^s<4294967296:=by have:=Uq f;omega
 replace l:=Ae l;replace m:=Ae m;have p:=λW=>Cj n ZbK .i64 .i64 W;go_enter Tryz.func329,Tryz.ntmps329;go_wp2;go_loopw [6,7] (λt i wr=>∃(k r:Nat) (q:List Nat),k<=n/\i=.int .i64 ((k:Int)-1)/\t=.int .u64 r/\Hid (r<2^s)/\Hid (DsRel w wr M q (2^s) n k r)) (λ_ i _=>(intOf i+1).toNat)
 case atStart => exact ⟨n, 0, List.replicate n 0, Nat.le_refl _, rfl, rfl, l.out, by simp, Cc _, Blk.new _ _ _, by
  have B:M.drop n=[]:=List.drop_eq_nil_of_le ZeT;rw[B];simp[val],(Ext.refl _).alloc _⟩
 case round=>
  obtain⟨k,r,q,C,rfl,rfl,G,T⟩:=hrel;by_cases U:k=0
  .subst U
   have v:Hid (Words wr (.slice (some ⟨w.heap.size,0,none⟩) n n) q):=by
    exact Zgp
   have X:Hid (val M/2^s=val q):=by
    have B:=T.out.2.2.2.1;simp only[List.drop_zero]at B;show val M/2^s=val q;rw[B,Nat.mul_comm,Nat.mul_add_div l.out,Nat.div_eq_of_lt G.out,Nat.add_zero]
   go_wp2_with (go_at_call 287;refine(DA _ _ _ v.out).mono ?_;rintro e N ⟨O,rfl,a,S⟩);go_ret;refine⟨O,rfl,?_,T.out.2.2.2.2.trans S⟩;rw[AU T.out.2.1,<-X.out]at a;exact a
  .obtain ⟨k, rfl⟩:∃q, k=q+1:=⟨k-1, by omega⟩
   obtain⟨b,o,rfl,F,R⟩:=V.out ZeT;replace R:=(T.out.2.2.2.2.cell (p:=⟨b,o+k,none⟩) F).trans (R k ZeT);have h:=AI g.out k;have L:wr.cell? ⟨w.heap.size,k,none⟩=some (.int .u32 (q.getD k 0:Nat)):=Ziy
   have Y:=T.out.2.2.1.frozen k;generalize E:M.getD k 0=x at *;replace E:=Ae E;unfold BB at h;have Z:((k+1:Nat):Int)-1=k:=by omega
   rw[Z];have d:r<4294967296:=Nat.lt_trans G.out m.out;have u:=Ki (r:=r) (x:=x) d h;have X:=Ae (A3j G.out h f);go_wp2;refine⟨⟨k,(r*4294967296+x)%2^s,_,by omega,rfl,by rw[X.out.2],Nat.mod_lt _ l.out,T.out.step C Q.out.symm E.out l.out G.out m.out h X.out.1⟩,by simp[intOf]⟩
structure KN(u v p vl ul v1 v2 u0 u1 u2:Nat):Prop where
 hv:v=vl+p*(v2+BB*v1)
 hu:u=ul+p*(u2+BB*(u1+BB*u0))
 vl_lt:vl<p
 ul_lt:ul<p
 v2_lt:v2<BB
 v1_lt:v1<BB
 u0_lt:u0<BB
 u1_lt:u1<BB
 u2_lt:u2<BB
 v1_pos:0<v1
 lt:u<BB*v
section
variable {u v p vl ul v1 v2 u0 u1 u2:Nat}
theorem KN.p_pos(h:KN u v p vl ul v1 v2 u0 u1 u2):0<p:=Nat.lt_of_le_of_lt (Nat.zero_le _) h.vl_lt
theorem KN.u0_le(h:KN u v p vl ul v1 v2 u0 u1 u2):u0<=v1:=by
 have G:=h.p_pos
 have A:v+1<=p*(v2+1+BB*v1):=by
  rw[h.hv,show v2+1+BB*v1=(v2+BB*v1)+1 by omega,Nat.mul_add p (v2+BB*v1) 1];have:=h.vl_lt;omega
 have B:v2+1+BB*v1<=BB*(v1+1):=by
  rw[Nat.mul_add];have:=h.v2_lt;omega
 have L:v<p*(BB*(v1+1)):=Nat.lt_of_lt_of_le A (Nat.mul_le_mul_left p B);have V:u<BB*(p*(BB*(v1+1))):=Nat.lt_trans h.lt (Nat.mul_lt_mul_of_pos_left L Cv)
 have m:p*(BB*(BB*u0))<=u:=by
  rw[h.hu]
  have:BB*(BB*u0)<=u2+BB*(u1+BB*u0):=by
   exact Zhm
  have:=Nat.mul_le_mul_left p this;omega
 have z:BB*(p*(BB*(v1+1)))=p*(BB*(BB*(v1+1))):=by rw[Nat.mul_left_comm]
 rw[z]at V;have d:=Nat.lt_of_le_of_lt m V;have C:=Nat.lt_of_mul_lt_mul_left d;have E:=Nat.lt_of_mul_lt_mul_left C;have Q:=Nat.lt_of_mul_lt_mul_left E;omega
theorem KN.v_ge(h:KN u v p vl ul v1 v2 u0 u1 u2):p*BB<=v:=by
 rw[h.hv];have:BB*1<=BB*v1:=Nat.mul_le_mul_left _ h.v1_pos;have B:p*BB<=p*(v2+BB*v1):=Nat.mul_le_mul_left p ZbK;omega
theorem KN.v_pos(h:KN u v p vl ul v1 v2 u0 u1 u2):0<v:=Nat.lt_of_lt_of_le (Nat.mul_pos h.p_pos Cv) h.v_ge
theorem KN.q_lt(h:KN u v p vl ul v1 v2 u0 u1 u2):u/v<BB:=Nat.div_lt_of_lt_mul (by rw[Nat.mul_comm];exact h.lt)
theorem KN.qV(h:KN u v p vl ul v1 v2 u0 u1 u2):u/v*(v2+BB*v1)<=u2+BB*(u1+BB*u0):=by
 have A:u/v*v<=u:=Nat.div_mul_le_self u v
 have B:p*(u/v*(v2+BB*v1))<=u/v*v:=by
  rw[Nat.mul_left_comm];refine Nat.mul_le_mul_left _ ?_;have:=h.hv;omega
 have L:u<p*(u2+BB*(u1+BB*u0)+1):=by
  have:=h.hu;have:=h.ul_lt;rw[Nat.mul_add p _ 1];omega
 have V:p*(u/v*(v2+BB*v1))<p*(u2+BB*(u1+BB*u0)+1):=by omega
 have:=Nat.lt_of_mul_lt_mul_left V;omega
theorem KN.qv1(h:KN u v p vl ul v1 v2 u0 u1 u2):u/v*v1<=u1+BB*u0:=by
 have A:=h.qV
 have B:BB*(u/v*v1)<=u/v*(v2+BB*v1):=by
  rw[Nat.mul_add (u/v),Nat.mul_left_comm];omega
 have L:BB*(u/v*v1)<BB*(u1+BB*u0+1):=by
  have:=h.u2_lt;rw[Nat.mul_add BB _ 1];omega
 have:=Nat.lt_of_mul_lt_mul_left L;omega
theorem KN.start(h:KN u v p vl ul v1 v2 u0 u1 u2):u/v<=(u1+BB*u0)/v1:=(Nat.le_div_iff_mul_le h.v1_pos).2 h.qv1
theorem KN.down(h:KN u v p vl ul v1 v2 u0 u1 u2){q r:Nat}(X:q*v1+r=u1+BB*u0)(w:u/v<=q)(J:BB<=q\/r*BB+u2<q*v2):1<=q/\u/v<=q-1/\(q-1)*v1+(r+v1)=u1+BB*u0:=by
 have g:1<=q:=by
  rcases J with J | J
  .have:=Cv;omega
  .rcases Nat.eq_zero_or_pos q with g | g
   .subst g;simp at J
   .exact g
 refine⟨g,?_,?_⟩
 .rcases J with J | J
  .have:=h.q_lt;omega
  .have Q:u/v<q:=by
    have A:=h.qV
    have B:u2+BB*(u1+BB*u0)<q*(v2+BB*v1):=by
     rw[<-X,Nat.mul_add q,Nat.mul_left_comm q,Nat.mul_add BB];have:BB*r=r*BB:=Nat.mul_comm _ _;omega
    exact Nat.lt_of_mul_lt_mul_right (Nat.lt_of_le_of_lt A B)
   omega
 .have:(q-1)*v1+v1=q*v1:=by
   exact Zgx
  omega
theorem KN.great(h:KN u v p vl ul v1 v2 u0 u1 u2){q r:Nat}(X:q*v1+r=u1+BB*u0)(b:BB<=r):q<BB/\q*v2<=r*BB+u2:=by
 have g:=h.u0_le;have A:BB*u0<=BB*v1:=Nat.mul_le_mul_left _ g;have B:q*v1<BB*v1:=by have:=h.u1_lt;omega
 have w:q<BB:=Nat.lt_of_mul_lt_mul_right B;refine⟨w,?_⟩;have L:q*v2<=BB*BB:=Nat.mul_le_mul (Nat.le_of_lt w) (Nat.le_of_lt h.v2_lt);have V:BB*BB<=r*BB:=Nat.mul_le_mul_right _ b;omega
theorem KN.after(h:KN u v p vl ul v1 v2 u0 u1 u2){q r:Nat}(X:q*v1+r=u1+BB*u0)(w:q<BB)(J:q*v2<=r*BB+u2):q*v<u+v:=by
 have A:q*(v2+BB*v1)<=u2+BB*(u1+BB*u0):=by
  rw[<-X,Nat.mul_add q,Nat.mul_left_comm q,Nat.mul_add BB];have:BB*r=r*BB:=Nat.mul_comm _ _;omega
 have B:q*v=q*vl+p*(q*(v2+BB*v1)):=by
  rw[h.hv,Nat.mul_add,Nat.mul_left_comm q p]
 have L:p*(q*(v2+BB*v1))<=p*(u2+BB*(u1+BB*u0)):=Nat.mul_le_mul_left p A;have V:p*(u2+BB*(u1+BB*u0))<=u:=by have:=h.hu;omega
 have m:q*vl<p*BB:=by
  rw[Nat.mul_comm p];exact Nat.lt_of_le_of_lt (Nat.mul_le_mul_right _ (Nat.le_of_lt w)) (Nat.mul_lt_mul_of_pos_left h.vl_lt Cv)
 have z:=h.v_ge;omega
end
theorem Wn(h:l.length=n+2):val l=val (l.take n)+BB^n*(l.getD n 0+BB*l.getD (n+1) 0):=by
 have A:=AM l (n+1);have B:=AM l n;rw[List.take_of_length_le ZbK]at A;rw[A,B,Nat.pow_succ,Nat.mul_assoc,Nat.add_assoc,<-Nat.mul_add]
theorem Wk(h:l.length=n+3):val l=val (l.take n)+BB^n*(l.getD n 0+BB*(l.getD (n+1) 0+BB*l.getD (n+2) 0)):=by
 have A:=AM l (n+2);have B:=AM l (n+1);have L:=AM l n;rw[List.take_of_length_le ZbK]at A;rw[A,B,L];have c:BB^(n+1)=BB^n*BB:=Nat.pow_succ ..;have v:BB^(n+2)=BB^n*(BB*BB):=by rw[Nat.pow_add];rfl
 rw[c,v];simp only[Nat.mul_add,Nat.mul_assoc,Nat.add_assoc]
theorem CM(h:BD l)(k:Nat):BD (l.take k):=λx E=>h x (List.mem_of_mem_take E)
theorem Pb(h:BD l)(k:Nat):BD (l.drop k):=λx E=>h x (List.mem_of_mem_drop E)
theorem A4O(L:l.length=n+3)(q:f.length=n+2)(F:BD l)(G:BD f)(V:0<f.getD (n+1) 0)(Q:val l<BB*val f) :
  KN (val l) (val f) (BB^n) (val (f.take n)) (val (l.take n)) (f.getD (n+1) 0) (f.getD n 0) (l.getD (n+2) 0) (l.getD (n+1) 0) (l.getD n 0) where
 hv:=Wn q
 hu:=Wk L
 vl_lt:=by have:=Dw (CM G n);rwa [List.length_take,Nat.min_eq_left ZbK]at this
 ul_lt:=by have:=Dw (CM F n);rwa [List.length_take,Nat.min_eq_left ZbK]at this
 v2_lt:=AI G _
 v1_lt:=AI G _
 u0_lt:=AI F _
 u1_lt:=AI F _
 u2_lt:=AI F _
 v1_pos:=V
 lt:=Q
def Win(w:World)(b:Nat)(pre x post:List Nat):Prop:=Blk w b 335 (wv (pre++x++post))
theorem Win.cell{b:Nat}{pre x post:List Nat}(h:Win w b pre x post){k:Nat}(C:k<x.length):w.cell? ⟨b,pre.length+k,none⟩=some (.int .u32 (x.getD k 0:Nat)):=by
 rw[Blk.cell h,Dr Zhz];simp[List.getElem?_append,C,show¬pre.length+k<pre.length by omega]
theorem Win.frozen{b:Nat}{pre x post:List Nat}(h:Win w b pre x post)(k:Nat):w.frozen? ⟨b,k,none⟩=false:=Blk.frozen h k
theorem Win.set{b:Nat}{pre x post:List Nat}(h:Win w b pre x post){k:Nat}(C:k<x.length)(y:Nat):Win (w.setCell ⟨b,pre.length+k,none⟩ (.int .u32 (y:Int))) b pre (x.set k y) post:=by
 have:=Blk.set h (pre.length+k) (.int .u32 (y:Int));rw[If]at this;unfold Win
 have e:(pre++x++post).set (pre.length+k) y=pre++x.set k y++post:=by
  rw[List.append_assoc,List.append_assoc,List.set_append_right _ _ ZbK,Nat.add_sub_cancel_left,List.set_append_left _ _ C]
 rw[e]at this;exact this
structure Only(b:Nat)(w w':World):Prop where
 os:w'.os=w.os
 tape:w'.tape=w.tape
 output:w'.output=w.output
 size:w.heap.size<=w'.heap.size
 block:∀k,k<w.heap.size->k≠b->w'.heap[k]? = w.heap[k]?
theorem Only.refl(b:Nat)(w:World):Only b w w:=⟨rfl,rfl,rfl,Nat.le_refl _,λ_ _ _=>rfl⟩
theorem Only.trans{b:Nat}(h:Only b w p)(k:Only b p uz):Only b w uz:=
 ⟨k.os.trans h.os,k.tape.trans h.tape,k.output.trans h.output,Nat.le_trans h.size k.size,λi M z=>(k.block i (Nat.lt_of_lt_of_le M h.size) z).trans (h.block i M z)⟩
theorem Only.drewN(h:Only n w p)(A:Nat):Only n w (p.drewN A):=⟨h.os,h.tape,h.output,h.size,h.block⟩
theorem Only.set{b:Nat}(h:Only b w p)(o:Nat)(u:Value):Only b w (p.setCell ⟨b,o,none⟩ u):=
 ⟨h.os,h.tape,h.output,by simpa[World.setCell]using h.size,λi M z=>(Below.heap_setCell p ⟨b,o,none⟩ u i z).trans (h.block i M z)⟩
theorem Only.cellv{b:Nat}{e F:World}(h:Only b e F){p:Addr}(G:p.block≠b){v:Value}(q:e.cell? p=some v):F.cell? p=some v:=
 (World.cell?_of_block (w:=e) (h.block p.block (World.block_lt_of_cell? e p q) G)).trans q
theorem Ve(x y c:Nat)(E:x<4294967296)(O:y<=4294967296)(I:c<=1)(u:y+c<=4294967296) :
  IntKind.u64.wrap (IntKind.u64.wrap ((x:Int)-y)-c)%4294967296=((x+BB*(if x<y+c then 1 else 0)-y-c:Nat):Int) /\
  IntKind.u64.wrap (IntKind.u64.wrap ((x:Int)-y)-c)/9223372036854775808=((if x<y+c then 1 else 0:Nat):Int):=by
 simp only[IntKind.wrap_u64,Br];split
 .constructor<;>omega
 .constructor<;>omega
theorem A5e{q y c z d:Nat}(C:z<4294967296)(Z:d<=1) :
  IntKind.u64.wrap (IntKind.u64.wrap ((z:Int)-((q:Int)*y+c)%4294967296)-d)%4294967296=((z+BB*(if z<(q*y+c)%BB+d then 1 else 0)-(q*y+c)%BB-d:Nat):Int) /\
  IntKind.u64.wrap (IntKind.u64.wrap ((z:Int)-((q:Int)*y+c)%4294967296)-d)/9223372036854775808=((if z<(q*y+c)%BB+d then 1 else 0:Nat):Int) /\
  ((q:Int)*y+c)/4294967296=(((q*y+c)/BB:Nat):Int):=by
 have e:(q:Int)*y+c=((q*y+c:Nat):Int):=by simp[Int.natCast_add,Int.natCast_mul]
 have t:=Nat.mod_lt (q*y+c) Cv;have v:((q:Int)*y+c)%4294967296=(((q*y+c)%BB:Nat):Int):=by rw[e,Br,Int.natCast_emod];rfl
 have x:((q:Int)*y+c)/4294967296=(((q*y+c)/BB:Nat):Int):=by rw[e,Br,Int.natCast_ediv];rfl
 rw[v,x];rw[Br]at t;obtain⟨A,B⟩:=Ve z ((q*y+c)%BB) d C ZcJ Z ZcJ;exact⟨A,B,rfl⟩
def MsRel(w wr:World)(b:Nat)(pre post u v x:List Nat)(n q k cy o:Nat):Prop:=
 x.length=n+1/\BD x/\Win wr b pre x post/\Only b w wr/\val (x.take k)+q*val (v.take k)=val (u.take k)+BB^k*(cy+o)/\∀i,k<=i->x.getD i 0=u.getD i 0
theorem MsRel.step{pre post u v x:List Nat}{A q k cy o y z:Nat}(h:MsRel w p n pre post u v x A q k cy o)(E:k<A)(O:v.getD k 0=y)(K:x.getD k 0=z)(Q:z<BB)(F:o<=1){e:Int}
  (G:e=(z+BB*(if z<(q*y+cy)%BB+o then 1 else 0)-(q*y+cy)%BB-o:Nat)) :
  MsRel w (p.setCell ⟨n,pre.length+k,none⟩ (.int .u32 e)) n pre post u v (x.set k (z+BB*(if z<(q*y+cy)%BB+o then 1 else 0)-(q*y+cy)%BB-o)) A q (k+1) ((q*y+cy)/BB) (if z<(q*y+cy)%BB+o then 1 else 0):=by
 obtain⟨B,C,L,V,m,J⟩:=h;have t:=Nat.mod_lt (q*y+cy) Cv;have S:z+BB*(if z<(q*y+cy)%BB+o then 1 else 0)-(q*y+cy)%BB-o<BB:=by split<;>omega
 have Y:z+BB*(if z<(q*y+cy)%BB+o then 1 else 0)-(q*y+cy)%BB-o+((q*y+cy)%BB+o)=z+BB*(if z<(q*y+cy)%BB+o then 1 else 0):=by split<;>omega
 generalize (if z<(q*y+cy)%BB+o then 1 else 0:Nat)=c at *;generalize R:z+BB*c-(q*y+cy)%BB-o=X at *;refine⟨by simpa using B,CQ C k S,by rw[G];exact L.set ZbK X,V.set _ _,?_,λi M=>?_⟩
 .rw [AM, CS, BX ZbK, AM u, AM v, O, <-J k (Nat.le_refl _), K]
  have I:=Nat.mod_add_div (q*y+cy) BB
  have N:BB^(k+1)*((q*y+cy)/BB+c)+BB^k*z=BB^k*X+q*(BB^k*y)+BB^k*(cy+o):=ZaA
  rw[Nat.mul_add q];omega
 .exact ZaB
theorem Dz(h:l.length=n+1):val l=val (l.take n)+BB^n*l.getD n 0:=by
 have:=AM l n;rwa [List.take_of_length_le ZbK]at this
theorem MsRel.close1{b:Nat}{pre post u v x:List Nat}{n q cy o z:Nat}(h:MsRel w p b pre post u v x n q n cy o)(I:u.length=n+1)(E:v.length=n)(G:x.getD n 0=z)(i:z<BB)(f:cy+o<=z)(M:val u/val v<=q)(N:0<val v){e:Int}(X:e=(z-cy-o:Nat)) :
  ∃K,K.length=n+1/\BD K/\Win (p.setCell ⟨b,pre.length+n,none⟩ (.int .u32 e)) b pre K post/\Only b w (p.setCell ⟨b,pre.length+n,none⟩ (.int .u32 e))/\val K+q*val v=val u/\val K<val v:=by
 obtain⟨A,B,L,V,m,F⟩:=h;have C:v.take n=v:=List.take_of_length_le ZbK;rw[C]at m
 have Hv:val (x.set n (z-cy-o))+q*val v=val u:=by
  rw[Dz (n:=n) Zdg,CS,BX ZbK,Dz I,<-F n (Nat.le_refl _),G];have:BB^n*z=BB^n*(z-cy-o)+BB^n*(cy+o):=by rw[<-Nat.mul_add];exact Zgm
  omega
 refine⟨x.set n (z-cy-o),by simpa using A,CQ B n ZbK,by rw[X];exact L.set ZbK _,V.set _ _,Hv,?_⟩
 have d:val u<(val u/val v+1)*val v:=by
  rw[Nat.mul_comm];exact Nat.lt_mul_div_succ (val u) N
 have J:(val u/val v+1)*val v<=(q+1)*val v:=Nat.mul_le_mul_right _ ZbK;rw[Nat.add_mul q,Nat.one_mul]at J;omega
theorem MsRel.close2{b:Nat}{pre post u v x:List Nat}{n q cy o z:Nat}(h:MsRel w p b pre post u v x n q n cy o)(I:u.length=n+1)(E:v.length=n)(G:x.getD n 0=z)(Q:z<cy+o)(J:cy+o<=BB){e:Int}(X:e=(z+BB-cy-o:Nat)) :
  (x.set n (z+BB-cy-o)).length=n+1/\BD (x.set n (z+BB-cy-o))/\Win (p.setCell ⟨b,pre.length+n,none⟩ (.int .u32 e)) b pre (x.set n (z+BB-cy-o)) post/\Only b w (p.setCell ⟨b,pre.length+n,none⟩ (.int .u32 e))/\val (x.set n (z+BB-cy-o))+q*val v=val u+BB^(n+1):=by
 obtain⟨A,B,L,V,m,F⟩:=h;have C:v.take n=v:=List.take_of_length_le ZbK;rw[C]at m;refine⟨by simpa using A,CQ B n ZbK,by rw[X];exact L.set ZbK _,V.set _ _,?_⟩;rw[Dz (n:=n) Zdg,CS,BX ZbK,Dz I,<-F n (Nat.le_refl _),G];have:BB^n*z+BB^n*BB=BB^n*(z+BB-cy-o)+BB^n*(cy+o):=by rw[<-Nat.mul_add,<-Nat.mul_add];exact Zgm
 rw[Nat.pow_succ];omega
def AbRel(w wr:World)(b:Nat)(pre post q v x:List Nat)(n k K:Nat):Prop:=
 x.length=n+1/\BD x/\Win wr b pre x post/\Only b w wr/\val (x.take k)+BB^k*K=val (q.take k)+val (v.take k)/\∀i,k<=i->x.getD i 0=q.getD i 0
theorem AbRel.drewN{pre post B v x:List Nat}{A k K:Nat}(h:AbRel w p n pre post B v x A k K)(q:Nat):AbRel w (p.drewN q) n pre post B v x A k K:=
 ⟨h.1,h.2.1,h.2.2.1,h.2.2.2.1.drewN q,h.2.2.2.2.1,h.2.2.2.2.2⟩
theorem AbRel.step{pre post q v x:List Nat}{A k K y z:Nat}(h:AbRel w p n pre post q v x A k K)(E:k<A)(O:v.getD k 0=y)(J:x.getD k 0=z)(N:y<BB)(Q:z<BB)(I:K<=1){e:Int}(X:e=((z+y+K)%BB:Nat)) :
  AbRel w (p.setCell ⟨n,pre.length+k,none⟩ (.int .u32 e)) n pre post q v (x.set k ((z+y+K)%BB)) A (k+1) ((z+y+K)/BB)/\(z+y+K)/BB<=1:=ZaC
theorem AbRel.close{b:Nat}{pre post N v x u:List Nat}{n K z q:Nat}(h:AbRel w p b pre post N v x n n K)(j:N.length=n+1)(s0:BD N)(E:v.length=n)(J:x.getD n 0=z)(i:z<BB)(I:K<=1)
  (g:val N+q*val v=val u+BB^(n+1)) (F:q*val v<val u+val v) {e:Int} (X:e=((z+K)%BB:Nat)) :
  ∃O,O.length=n+1/\BD O/\Win (p.setCell ⟨b,pre.length+n,none⟩ (.int .u32 e)) b pre O post/\Only b w (p.setCell ⟨b,pre.length+n,none⟩ (.int .u32 e))/\1<=q/\val O+(q-1)*val v=val u/\val O<val v:=by
 obtain⟨A,B,L,V,m,G⟩:=h;have C:v.take n=v:=List.take_of_length_le ZbK;rw[C]at m;have Z:=Dw s0;rw[j]at Z
 have W:1<=q:=by
  rcases Nat.eq_zero_or_pos q with h | h
  .subst h;rw[Nat.zero_mul]at g;omega
  .exact h
 have Q:(q-1)*val v+val v=q*val v:=by
  exact Zgx
 have R:N.getD n 0=z:=by rw[<-G n (Nat.le_refl _),J]
 have M:=Dz j;rw[R]at M
 have a:val (x.take n)<BB^n:=by
  have:=Dw (CM B n);exact ZiA
 have S:BB^(n+1)=BB^n*BB:=Nat.pow_succ ..
 have Y:val (x.take n)+BB^n*(z+K)=BB^(n+1)+(val u+val v-q*val v):=by
  exact Zhm
 have y:z+K=BB:=by
  rcases Nat.lt_or_ge (z+K) BB with h | h
  .exfalso
   have d:BB^n*(z+K+1)<=BB^n*BB:=Nat.mul_le_mul_left _ h;rw[Nat.mul_add,<-S,Nat.mul_one]at d;omega
  .omega
 rw[y,<-S]at Y
 have Hv:val (x.set n ((z+K)%BB))=val u+val v-q*val v:=by
  rw[Dz (n:=n) Zdg,CS,BX ZbK,y,Nat.mod_self,Nat.mul_zero,Nat.add_zero];omega
 refine⟨x.set n ((z+K)%BB),by simpa using A,CQ B n (Nat.mod_lt _ Cv),by rw[X];exact L.set ZbK _,V.set _ _,W,?_,?_⟩
 .rw [Hv];omega
 .rw [Hv];omega
theorem Yz{k:IntKind}{a b:Int}(h:a=b):Ending.returned (.int k a)=.returned (.int k b):=by rw[h]
def A2B(w:World)(b:Nat)(pre post u v:List Nat)(e:Ending)(N:World):Prop:=
 ∃(q:Nat) (x:List Nat),e=.returned (.int .u32 q)/\q<BB/\x.length=u.length/\BD x/\Win N b pre x post/\Only b w N/\val x+q*val v=val u/\val x<val v
def A5T(w:World)(b T A B:Nat)(pre post u v:List Nat)(q r:Value)(F:World):Prop:=
 ∃I n:Nat,q=.int .u64 I/\r=.int .u64 n/\n<4294967296/\I<=8589934592/\Hid (I*T+n=B+BB*A/\val u/val v<=I)/\Hid (Win F b pre u post/\Only b w F)
set_option maxRecDepth 1000000 in
theorem MF(b bv ov n cu cv:Nat)(pre post u v:List Nat)(w:World)(Y:Win w b pre u post)(S:u.length=n+1)(K:v.length=n)(xt:2<=n)(F:n<=4398046511104)(su:BD u)(sv:BD v)(xD:bv≠b)
  (xr:∀i,i<n->w.cell? ⟨bv,ov+i,none⟩=some (.int .u32 (v.getD i 0:Nat))) (xA:n+1<=cu) (xw:n<=cv) (xu:2147483648<=v.getD (n-1) 0) (Q:val u<BB*val v) :
  Calls Tryz.prog 328 #[.slice (some ⟨b,pre.length,none⟩) (n+1) cu,.slice (some ⟨bv,ov,none⟩) n cv] w (A2B w b pre post u v):=by
 obtain⟨m,rfl⟩:∃m,n=m+2:=⟨n-2,by omega⟩;have a:=Ae (A4O S K su sv ZdS Q);have xn:=Y.cell (k:=m+2) ZbK;have xh:=Y.cell (k:=m+1) ZbK;have xg:=Y.cell (k:=m) ZbK;have xm:=xr (m+1) ZbK;have xj:=xr m ZbK;have xp:=AI su (m+2);have xB:=AI su (m+1);have xQ:=AI su m;have xl:=AI sv (m+1);have xs:=AI sv m;have xR:2147483648<=v.getD (m+1) 0:=xu;generalize xI:u.getD (m+2) 0=U0 at *;generalize xJ:u.getD (m+1) 0=U1 at *;generalize xG:u.getD m 0=U2 at *;generalize xK:v.getD (m+1) 0=U at *;generalize xL:v.getD m 0=V2 at *;replace xI:=Ae xI;replace xJ:=Ae xJ;replace xG:=Ae xG;replace xK:=Ae xK;replace xL:=Ae xL;unfold BB at xp xB xQ xl xs;replace Y:=Ae Y;replace S:=Ae S;replace K:=Ae K;replace su:=Ae su;replace sv:=Ae sv;replace xr:=Ae xr;replace Q:=Ae Q;clear xu;generalize W:pre.length=P at *;replace W:=Ae W;have xP:=Ki (r:=U0) (x:=U1) xp xB;have t:m<=4398046511102:=by omega
 clear F xt;go_enter Tryz.func328,Tryz.ntmps328;go_wp2;go_quiet (fail);go_wp2;go_quiet (fail)
 have h:Hid (((U0:Int)*4294967296+U1)/U=((U1+BB*U0)/U:Nat)/\((U0:Int)*4294967296+U1)%U=((U1+BB*U0)%U:Nat)):=by
  have e:(U0:Int)*4294967296+U1=((U1+BB*U0:Nat):Int):=by rw[Br];omega
  exact Zhh
 go_upto_block 0 with(fail)
 rw[h.out.1,h.out.2];go_cut [7,8] (λq r wx=>∃qn:Nat,q=.int .u64 qn/\qn<4294967296/\Hid (val u/val v<=qn/\qn*val v<val u+val v)/\Hid (Win wx b pre u post/\Only b w wx))
 case first=>
  go_wp2;go_loopw [7,8] (λq r wx=>A5T w b U U0 U1 pre post u v q r wx) (λq _ _=>(intOf q).toNat)
  case atStart=>
   have xi:0<U:=by omega
   refine⟨_,_,rfl,rfl,?_,?_,⟨?_,?_⟩,?_⟩
   .have:=Nat.mod_lt (U1+BB*U0) xi;omega
   .refine Nat.le_of_lt (Nat.div_lt_of_lt_mul ?_)
    have:2147483648*8589934592<=U*8589934592:=Nat.mul_le_mul_right _ xR;rw[Br];omega
   .rw [Nat.mul_comm];exact Nat.div_add_mod _ _
   .exact a.out.start
   .exact ⟨Y.out,((Only.refl _ _).drewN _).drewN _⟩
  case round=>
   obtain⟨q,r,rfl,rfl,E,M,T,p⟩:=hrel
   have g2:wr.cell? ⟨b,P+m,none⟩=some (.int .u32 (U2:Nat)):=by
    have:=p.out.1.cell (k:=m) (by rw[S.out];omega);rw[W.out,xG.out]at this;exact this
   have g1:wr.cell? ⟨bv,ov+(m+1),none⟩=some (.int .u32 (U:Nat)):=p.out.2.cellv xD xm;have g3:wr.cell? ⟨bv,ov+m,none⟩=some (.int .u32 (V2:Nat)):=p.out.2.cellv xD xj;have xS:=Ki (r:=r) (x:=U2) E xQ;clear xn xh xg xm xj xP;have xM:=Ae (λJ=>a.out.down T.out.1 T.out.2 (q:=q) (r:=r) J);have xe:Hid (∀q' X,q'*U+X=U1+BB*U0->val u/val v<=q'->q'<BB->q'*V2<=X*BB+U2->val u/val v<=q'/\q'*val v<val u+val v):=λq' X A B L V=>⟨B,a.out.after A L V⟩;have xN:Hid (∀q' X,q'*U+X=U1+BB*U0->BB<=X->q'<BB/\q'*V2<=X*BB+U2):=λq' X A B=>a.out.great A B;by_cases xk:4294967296<=q
   .have xx:decide ((4294967296:Int)<=q)=true:=Zhz
    replace xk:=Ae xk;replace M:=Ae M;have Z:=Ae (xM.out (.inl (by rw[Br];exact xk.out)));by_cases xd:4294967296<=r+U
    .have xF:(4294967296:Int)<=(r:Int)+U:=by omega
     replace xd:=Ae xd;go_wp2;go_quiet (fail);have xc:(1:Int)<=q:=by have:=xk.out;omega
     have xy:(q:Int)<=8589934592:=by have:=M.out;omega
     clear xx;go_wp2;go_meet
     case rel=>
      exact ZfD
    .have xF:decide ((4294967296:Int)<=(r:Int)+U)=false:=Zhz
     replace xd:=Ae xd;go_wp2;go_quiet (fail);have xc:(1:Int)<=q:=by have:=xk.out;omega
     have xy:(q:Int)<=8589934592:=by have:=M.out;omega
     clear xx;exact ZfF
   .have xx:decide ((4294967296:Int)<=q)=false:=Zhz
    have xE:q<4294967296:=by omega
    replace xk:=Ae xk;replace M:=Ae M;have G:(q:Int)*V2<=18446744065119617025:=by have:=EU xE xs;omega
    have xo:(0:Int)<=(q:Int)*V2:=Int.mul_nonneg ZbK ZbK;by_cases xv:r*4294967296+U2<q*V2
    .have xC:decide ((r:Int)*4294967296+U2<(q:Int)*V2)=true:=Zhz
     have Z:=Ae (xM.out (.inr (by rw[Br];exact xv)));replace xv:=Ae xv;have xc:(1:Int)<=q:=by have:=Z.out.1;omega
     by_cases xd:4294967296<=r+U
     .have xF:decide ((4294967296:Int)<=(r:Int)+U)=true:=Zhz
      replace xd:=Ae xd;go_wp2;go_quiet (fail);clear G xo xC xx xS;go_wp2;go_meet
      case rel=>
       exact ZfD
     .have xF:decide ((4294967296:Int)<=(r:Int)+U)=false:=Zhz
      replace xd:=Ae xd;go_wp2;go_quiet (fail);clear G xo xC xx xS;exact ZfF
    .have xC:decide ((r:Int)*4294967296+U2<(q:Int)*V2)=false:=Zhz
     replace xv:=Ae xv;go_wp2;go_quiet (fail);go_wp2;go_meet
     case rel=>exact⟨q,rfl,xE,xe.out _ _ T.out.1 T.out.2 (by rw[Br];exact xE) (by have:=xv.out;rw[Br];omega),p.out.1,p.out.2.drewN _⟩
 case rest=>
  obtain⟨q,rfl,M,T,p⟩:=hcut;clear xn xh xg xm xj xP;go_wp2;obtain⟨wo,rfl⟩:∃wo:World,wo=wc:=⟨_,rfl⟩;go_loopw [9,10,83] (λcy o i wr=>∃(k c d:Nat) (x:List Nat),k<=m+2/\i=.int .i64 k/\cy=.int .u64 c/\o=.int .u64 d/\c<4294967296/\d<=1/\Hid (MsRel w wr b pre post u v x (m+2) q k c d)) (λ_ _ i _=>m+2-(intOf i).toNat)
  case atStart=>exact⟨0,0,0,u,Nat.zero_le _,rfl,rfl,rfl,by omega,by omega,S.out,su.out,p.out.1,p.out.2,by simp[val],λ_ _=>rfl⟩
  case round=>
   obtain⟨k,c,d,x,C,rfl,rfl,rfl,xz,xq,j⟩:=hrel;by_cases Q:k<m+2
   .have g1:wr.cell? ⟨bv,ov+k,none⟩=some (.int .u32 (v.getD k 0:Nat)):=j.out.2.2.2.1.cellv xD (xr.out k Q)
    have g2:wr.cell? ⟨b,P+k,none⟩=some (.int .u32 (x.getD k 0:Nat)):=by
     have:=j.out.2.2.1.cell (k:=k) Zdr;exact Zhx
    have g3:=j.out.2.2.1.frozen (P+k);have xb:=AI sv.out k;have xf:=AI j.out.2.1 k;generalize O:v.getD k 0=y at *;generalize R:x.getD k 0=z at *;replace O:=Ae O;replace R:=Ae R;unfold BB at xb xf;have G:(q:Int)*y<=18446744065119617025:=by have:=EU M xb;omega
    have xo:(0:Int)<=(q:Int)*y:=Int.mul_nonneg ZbK ZbK;have xa:=Ae (A5e (q:=q) (y:=y) (c:=c) (z:=z) (d:=d) xf xq)
    have xH:Hid ((q*y+c)/BB<4294967296):=by
     have:=EU M xb;show _/BB<4294967296;rw[Br];omega
    go_wp2;rw[xa.out.1,xa.out.2.1,xa.out.2.2];have:=j.out.step Q O.out R.out Zes xq (cy:=c) rfl;rw[W.out]at this;exact⟨⟨k+1,_,_,_,Q,by simp,rfl,rfl,xH.out,by split<;>omega,this⟩,by simp[intOf];omega⟩
   .obtain rfl:k=m+2:=by omega
    have g2:wr.cell? ⟨b,P+(m+2),none⟩=some (.int .u32 (x.getD (m+2) 0:Nat)):=by
     have:=j.out.2.2.1.cell (k:=m+2) Zdr;exact Zhx
    have g3:=j.out.2.2.1.frozen (P+(m+2));have xf:=AI j.out.2.1 (m+2);generalize R:x.getD (m+2) 0=z at *;replace R:=Ae R;unfold BB at xf;have xa:=Ae (Ve z c d xf ZbK xq ZbK);by_cases f:c+d<=z
    .go_wp2
     go_ret;obtain⟨l,A,B,L,V,I,N⟩:=j.out.close1 S.out K.out R.out Zes f T.out.1 a.out.v_pos (e:=(z:Int)-c-d) ZbK;rw[W.out]at L V;exact⟨q,l,rfl,by rw[Br];exact M,A.trans S.out.symm,B,L,V,I,N⟩
    .have xT:(IntKind.u64.wrap (IntKind.u64.wrap ((z:Int)-c)-d)/9223372036854775808==0)=false:=by
      rw[xa.out.2,if_pos ZbK];rfl
     have s:=j.out.close2 S.out K.out R.out ZbK ZcJ (e:=IntKind.u64.wrap (IntKind.u64.wrap ((z:Int)-c)-d)%4294967296) (by rw[xa.out.1,if_pos ZbK,Nat.mul_one]);rw[W.out]at s;generalize x.set (m+2) (z+BB-c-d)=g at s;replace s:=Ae s;replace f:=Ae f;go_wp2;obtain⟨wp,xO⟩:∃wp:World,wp=wr.setCell ⟨b,P+(m+2),none⟩ (.int .u32 (IntKind.u64.wrap (IntKind.u64.wrap ((z:Int)-c)-d)%4294967296)):=⟨_,rfl⟩;rw[<-xO]at s;rw[<-xO];clear xO xT xa g2 g3 j;go_loopw [9,136] (λcy i wr=>∃(k c:Nat) (x:List Nat),k<=m+2/\i=.int .i64 k/\cy=.int .u64 c/\c<=1/\Hid (AbRel w wr b pre post g v x (m+2) k c)) (λ_ i _=>m+2-(intOf i).toNat)
     case atStart=>exact⟨0,0,g,Nat.zero_le _,rfl,rfl,by omega,s.out.1,s.out.2.1,s.out.2.2.1,s.out.2.2.2.1,by simp[val],λ_ _=>rfl⟩
     case round=>
      obtain⟨k,c,x,C,rfl,rfl,xh,j⟩:=hrel;by_cases Q:k<m+2
      .have g1:wr.cell? ⟨bv,ov+k,none⟩=some (.int .u32 (v.getD k 0:Nat)):=j.out.2.2.2.1.cellv xD (xr.out k Q)
       have g2:wr.cell? ⟨b,P+k,none⟩=some (.int .u32 (x.getD k 0:Nat)):=by
        have:=j.out.2.2.1.cell (k:=k) Zdr;exact Zhx
       have g3:=j.out.2.2.1.frozen (P+k);have xb:=AI sv.out k;have xf:=AI j.out.2.1 k;generalize O:v.getD k 0=y at *;generalize R:x.getD k 0=z at *;replace O:=Ae O;replace R:=Ae R;unfold BB at xb xf;go_wp2;go_quiet (fail);go_wp2;have A:=(j.out.drewN nq).step Q O.out R.out (by rw[Br];exact xb) Zes xh (e:=((z:Int)+y+c)%4294967296) ZcJ;rw[W.out]at A;exact⟨⟨k+1,(z+y+c)/BB,_,Q,by simp,by rw[Br];congr 1,A.2,A.1⟩,by simp[intOf];omega⟩
      .obtain rfl:k=m+2:=by omega
       have g2:wr.cell? ⟨b,P+(m+2),none⟩=some (.int .u32 (x.getD (m+2) 0:Nat)):=by
        have:=j.out.2.2.1.cell (k:=m+2) Zdr;exact Zhx
       have g3:=j.out.2.2.1.frozen (P+(m+2));have xf:=AI j.out.2.1 (m+2);generalize R:x.getD (m+2) 0=z at *;replace R:=Ae R;unfold BB at xf;obtain⟨l,A,B,L,V,xc,I,N⟩:=j.out.close s.out.1 s.out.2.1 K.out R.out Zes xh s.out.2.2.2.2 T.out.2 (e:=((z:Int)+c)%4294967296) ZcJ;rw[W.out]at L V;have H:=Ae (And.intro A (And.intro B (And.intro L (And.intro V (And.intro I N)))));clear A B L V I N;go_wp2;go_ret;exact⟨q-1,l,Yz ZbK,by rw[Br];omega,H.out.1.trans S.out.symm,H.out.2.1,H.out.2.2.1,H.out.2.2.2.1,H.out.2.2.2.2.1,H.out.2.2.2.2.2⟩
theorem Zu(x y K:Nat)(E:x<4294967296)(O:y<4294967296)(I:K<=1) :
  IntKind.u64.wrap (4294967296+(x:Int))=4294967296+(x:Int)/\IntKind.u64.wrap (4294967296+(x:Int)-y)=4294967296+(x:Int)-y/\IntKind.u64.wrap (4294967296+(x:Int)-y-K)=4294967296+(x:Int)-y-K /\
  (4294967296+(x:Int)-y-K)%4294967296=((x+BB*(if x<K+y then 1 else 0)-K-y:Nat):Int)/\(4294967296+(x:Int)-y-K)%4294967296%4294967296=((x+BB*(if x<K+y then 1 else 0)-K-y:Nat):Int) /\
  1-(4294967296+(x:Int)-y-K)/4294967296=((if x<K+y then 1 else 0:Nat):Int):=by
 simp only[IntKind.wrap_u64,Br];refine⟨by omega,by omega,by omega,?_,?_,?_⟩<;>(split<;>omega)
theorem Zr(x y z K:Nat)(E:x<4294967296)(O:y<4294967296)(B:z<4294967296)(I:K<4294967296) :
  IntKind.u64.wrap ((x:Int)*y)=(x:Int)*y/\IntKind.u64.wrap ((x:Int)*y+z)=(x:Int)*y+z/\IntKind.u64.wrap ((x:Int)*y+z+K)=(x:Int)*y+z+K/\0<=(x:Int)*y/\0<=(x:Int)*y+z+K/\(x:Int)*y+z+K<=18446744073709551615:=by
 have G:(x:Int)*y<=18446744065119617025:=by have:=EU E O;omega
 have c:(0:Int)<=(x:Int)*y:=Int.mul_nonneg ZbK ZbK;generalize (x:Int)*y=p at *;simp only[IntKind.wrap_u64];omega
theorem Xj(P vb:Value)(Y j:List Nat)(w:World)(s:Words w P Y)(F:Words w vb j)(q:val j<=val Y)(K:j.length<=Y.length)(L:Y.length<=4398046511104) :
  Calls Tryz.prog 277 #[P,vb] w λe N=>∃a,e=.returned a/\Words N a (Aq (val Y-val j))/\Ext w N:=by
 obtain⟨A,c,rfl,I,R,E⟩:=s.open_;obtain⟨B,d,rfl,Z,xo,O⟩:=F.open_;have Ha:=Ae s;have Hb:=Ae F;have xg:=Ae s.small;have xm:=Ae F.small;clear s F;have hA:=Ae E;have hB:=Ae O;clear E O;replace q:=Ae q;obtain⟨n,l⟩:∃n,n=Y.length:=⟨_,rfl⟩;obtain⟨m,U⟩:∃m,m=j.length:=⟨_,rfl⟩;rw[<-l]at I K L ⊢;rw[<-U]at Z K ⊢;replace l:=Ae l;replace U:=Ae U;have xk:=λW=>Cj n ZbK .i64 .i64 W;go_enter Tryz.func277,Tryz.ntmps277;go_wp2;go_loopw [6,7] (λcy i wr=>∃(k X:Nat) (r:List Nat),k<=n/\i=.int .i64 k/\cy=.int .u64 X/\X<=1/\Hid (DifRel w wr Y j r n k X)) (λ_ i _=>n-(intOf i).toNat)
 case atStart=>exact⟨0,0,List.replicate n 0,Nat.zero_le _,rfl,rfl,by omega,⟨by simp,Cc _,Blk.new _ _ _,by simp[val],(Ext.refl _).alloc _⟩⟩
 case round=>
  obtain⟨k,X,r,C,rfl,rfl,xj,T⟩:=hrel;by_cases Q:k<n
  .have xp:decide ((k:Int)<n)=true:=by simpa using Q
   obtain⟨b,o,rfl,F,z⟩:=hA.out Zeo;replace z:=(T.out.2.2.2.2.cell (p:=⟨b,o+k,none⟩) F).trans (z k Zeo);have xc:=AI xg.out k;have xf:=AI xm.out k;generalize E:Y.getD k 0=x at *;generalize O:j.getD k 0=y at *;replace E:=Ae E;replace O:=Ae O;unfold BB at xc xf;have Hw:Hid (Words wr (.slice B m d) j):=by rw[U.out];exact Hb.out.ext T.out.2.2.2.2
   have xe:=Ae (Zu x y X xc xf xj);have M:¬n<=k:=by omega
   have xn:Hid (IntKind.u64.wrap (x:Int)=x):=Ae (IntWalk.u64_in _ ZbK);have xi:(4294967296:Int)+x-y-X<=8589934591:=by omega
   have xh:0<=(4294967296:Int)+x-y-X:=by omega
   go_upto_region 6 with(fail)
   refine wp_region_v ZbM [[], [], [(18, 0), (19, 1)], [(20, 2)], [(21, 3)], [(22, 4)], [], [], [(24, 6), (25, 7)], [(23, 5), (26, 8)], [], [(27, 9), (28, 10)]] [[], [], [0, 1], [0, 1, 2], [0, 1, 2, 3], [0, 1, 2, 3, 4], [], [], [6, 7], [0, 1, 2, 3, 4, 5, 6, 7, 8], [], [0, 1, 2, 3, 4, 5, 6, 7, 8, 9, 10]]
    [λv _=>v=.slice (some ⟨b,o,none⟩) n c,λv _=>v=.int .i64 (k:Int),λv _=>v=.pointer (some ⟨b,o+k,none⟩),λv _=>v=.int .u32 (x:Int),λv _=>v=.int .u64 (x:Int),λv _=>v=.int .u64 (4294967296+(x:Int)),λv _=>v=.slice B m d,λv _=>v=.int .i64 (k:Int),λv _=>v=.int .u64 (y:Int),λv _=>v=.int .u64 (4294967296+(x:Int)-y),λv _=>v=.int .u64 (X:Int),λv _=>v=.int .u64 (4294967296+(x:Int)-y-X)]
    rfl ZbM ZbM ?stab ?steps ?fin
   case stab=>exact .cons (Stab.eq _) (.cons (Stab.eq _) (.cons (Stab.eq _) (.cons (Stab.eq _) (.cons (Stab.eq _) (.cons (Stab.eq _) (.cons (Stab.eq _) (.cons (Stab.eq _) (.cons (Stab.eq _) (.cons (Stab.eq _) (.cons (Stab.eq _) (.cons (Stab.eq _) .nil)))))))))))
   case steps=>
    refine .cons ?s0 (.cons ?s1 (.cons ?s2 (.cons ?s3 (.cons ?s4 (.cons ?s5 (.cons ?s6 (.cons ?s7 (.cons ?s8 (.cons ?s9 (.cons ?s10 (.cons ?s11 .nil)))))))))))
    case s0=>
     intro N h S C s I p;have H:h (.tmp 0)=.slice (some ⟨b,o,none⟩) n c:=s 0 ZbN;exact Ar (by simp[execOp,H,go_sem]) rfl
    case s1=>
     intro N h S C s I p;exact ZhA
    case s2=>
     intro N h S C s I p;have xt:h (.tmp 18)=.slice (some ⟨b,o,none⟩) n c:=C.1 _ rfl;have xu:h (.tmp 19)=.int .i64 (k:Int):=C.2.1 _ rfl;exact Ar (by simp[execOp,xt,xu,M,go_sem]) rfl
    case s3=>
     intro N h S C s I p;have xr:h (.tmp 20)=.pointer (some ⟨b,o+k,none⟩):=C.1 _ rfl;have g:N.cell? ⟨b,o+k,none⟩=some (.int .u32 (x:Int)):=S.cellv z;exact Ar (by simp[execOp,xr,g,go_sem]) rfl
    case s4=>
     intro N h S C s I p;have xv:h (.tmp 21)=.int .u32 (x:Int):=C.1 _ rfl;exact Ar (by simp[execOp,xv,xn.out,go_sem]) rfl
    case s5=>
     intro N h S C s I p;have xw:h (.tmp 22)=.int .u64 (x:Int):=C.1 _ rfl;exact Ar (by simp[execOp,xw,I,xe.out.1,go_sem]) rfl
    case s6=>
     intro N h S C s I p;have G:h (.tmp 1)=.slice B m d:=s 1 ZbN;exact Ar ZdA rfl
    case s7=>
     intro N h S C s I p;exact ZhA
    case s8=>
     intro N h S C s I p;have xz:h (.tmp 24)=.slice B m d:=C.1 _ rfl;have xA:h (.tmp 25)=.int .i64 (k:Int):=C.2.1 _ rfl;refine Cl (by simp[execOp,resolve,invoke,p,xz,xA,go_sem]) (GV _ j k y _ (Hw.out.ext ((Ext.refl _).drew.trans S)) O.out) ?_;rintro e f ⟨rfl,rfl⟩;exact⟨_,rfl,Ext.refl _,rfl⟩
    case s9=>
     intro N h S C s I p;have xy:h (.tmp 23)=.int .u64 (4294967296+(x:Int)):=C.1 _ rfl;have xB:h (.tmp 26)=.int .u64 (y:Int):=C.2.1 _ rfl;exact Ar (by simp[execOp,xy,xB,xe.out.2.1,go_sem]) rfl
    case s10=>
     intro N h S C s I p;have e6:h (.tmp 6)=.int .u64 (X:Int):=s 6 ZbN;exact Ar Zex rfl
    case s11=>
     intro N h S C s I p;have xC:h (.tmp 27)=.int .u64 (4294967296+(x:Int)-y):=C.1 _ rfl;have xx:h (.tmp 28)=.int .u64 (X:Int):=C.2.1 _ rfl;exact Ar (by simp[execOp,xC,xx,xe.out.2.2.1,go_sem]) rfl
   case fin=>
    intro gf N S hF;have xq:=hF 11 _ rfl;simp only[List.length_cons,List.length_nil,Nat.reduceAdd,List.drop_succ_cons,List.drop_zero,List.take_succ_cons,List.take_zero,EG,Act.put,List.setIfInBounds_toArray,List.set_cons_succ,List.set_cons_zero,xq];replace S:=Ae ((Ext.refl _).drew.trans S);have xs:Hid (DifRel w N Y j r n k X):=⟨T.out.1,T.out.2.1,T.out.2.2.1.ext S.out,T.out.2.2.2.1,T.out.2.2.2.2.trans S.out⟩;have V:N.cell? ⟨w.heap.size,k,none⟩=some (.int .u32 (r.getD k 0:Nat)):=by rw[xs.out.2.2.1.cell,Dr (by rw[xs.out.1];omega)]
    have xd:=xs.out.2.2.1.frozen k;clear hF xq S T Hw;obtain⟨t,J⟩:∃t:Int,t=4294967296+(x:Int)-y-X:=⟨_,rfl⟩;rw[<-J]at xi xh xe ⊢;replace J:=Ae J;generalize r.getD k 0=xl at *;go_wp2;exact⟨xs.out.step Q E.out O.out xc xf xj (by first | exact xe.out.2.2.2.1 | exact xe.out.2.2.2.2.1) xe.out.2.2.2.2.2,by simp[intOf];omega⟩
  .obtain rfl:k=n:=by omega
   have xb:=Ae (T.out.close l.out.symm (by rw[<-U.out];exact K) q.out)
   have u:Hid (Words wr (.slice (some ⟨w.heap.size,0,none⟩) k k) r):=by
    have:=Cn (c:=k) T.out.2.2.1 T.out.2.1 Zcr ZbK;exact ZfM
   go_wp2_with (go_at_call 288;refine(EW _ _ _ u.out).mono ?_;rintro e N ⟨a,rfl,xa,S⟩);go_ret;refine⟨a,rfl,?_,T.out.2.2.2.2.trans S⟩;rw[AU T.out.2.1,xb.out]at xa;exact xa
theorem IU(va vb:Value)(a H:List Nat)(w:World)(s:Words w va a)(G:Words w vb H)(L:a.length<=4398046511104)(t:H.length<=4398046511104) :
  Calls Tryz.prog 278 #[va,vb] w λe N=>∃f,e=.returned f/\Words N f (Aq (val a*val H))/\Ext w N:=by
 obtain⟨A,c,rfl,I,xs,F⟩:=s.open_;obtain⟨B,d,rfl,Z,xz,O⟩:=G.open_;have xk:=Ae s.small;have xq:=Ae G.small;clear s G;have hA:=Ae F;have hB:=Ae O;clear F O;obtain⟨n,U⟩:∃n,n=a.length:=⟨_,rfl⟩;obtain⟨m,xc⟩:∃m,m=H.length:=⟨_,rfl⟩;rw[<-U]at I L ⊢;rw[<-xc]at Z t ⊢;replace U:=Ae U;replace xc:=Ae xc;have xp:=λW=>Cj (n+m) ZbK .i64 .i64 W;simp only[Int.natCast_add]at xp;go_enter Tryz.func278,Tryz.ntmps278;go_wp2;go_loopw [6] (λi wr=>∃(k:Nat) (r:List Nat),k<=n/\i=.int .i64 k/\Hid (XQ w wr a H r n m k)) (λi _=>n-(intOf i).toNat)
 case atStart => exact ⟨0, List.replicate (n + m) 0, Nat.zero_le _, rfl, by simp, Cc _, Blk.new _ _ _, by
  have:∀q,val (List.replicate q 0)=0:=λq=>by
   induction q with
   |zero=>rfl
   |succ q P=>simp[List.replicate_succ,val,P]
  simp[val,List.take_replicate,this],(Ext.refl _).alloc _⟩
 case round=>
  obtain⟨k,r,E,rfl,V⟩:=hrel;by_cases Q:k<n
  .obtain ⟨b, o, rfl, G, xa⟩:=hA.out (by rw [<-U.out]; omega)
   replace xa:=(V.out.2.2.2.2.cell (p:=⟨b,o+k,none⟩) G).trans (xa k ZeU);have xf:=AI xk.out k;generalize F:a.getD k 0=x at *;replace F:=Ae F;unfold BB at xf;go_wp2;obtain⟨wo,rfl⟩:∃wo:World,wo=wr:=⟨_,rfl⟩;go_loopw [7,8] (λcy i wr=>∃(j Y:Nat) (r:List Nat),j<=m/\i=.int .i64 j/\cy=.int .u64 Y/\Y<4294967296/\Hid (MulIn w wr a H r n m k j x Y)) (λ_ i _=>m-(intOf i).toNat)
   case atStart=>exact⟨0,0,r,Nat.zero_le _,rfl,rfl,by omega,V.out.1,V.out.2.1,V.out.2.2.1,by simp[val,V.out.2.2.2.1],V.out.2.2.2.2⟩
   case round=>
    obtain⟨j,Y,r,K,rfl,rfl,xn,g⟩:=hrel;by_cases xv:j<m
    .obtain ⟨M, l, rfl, xb, xr⟩:=hB.out (by rw [<-xc.out]; omega)
     replace xr:=(g.out.2.2.2.2.cell (p:=⟨M,l+j,none⟩) xb).trans (xr j (by rw[<-xc.out];omega));have xi:=AI xq.out j;have xj:=AI g.out.2.1 (k+j);have R:wr.cell? ⟨w.heap.size,k+j,none⟩=some (.int .u32 (r.getD (k+j) 0:Nat)):=by rw[g.out.2.2.1.cell,Dr (by rw[g.out.1];omega)]
     have xg:=g.out.2.2.1.frozen (k+j);generalize O:H.getD j 0=y at *;generalize X:r.getD (k+j) 0=z at *;replace O:=Ae O;replace X:=Ae X;unfold BB at xi xj;have xE:wr.cell? ⟨b,o+k,none⟩=some (.int .u32 (x:Int)):=(g.out.2.2.2.2.cell (p:=⟨b,o+k,none⟩) G).trans ((V.out.2.2.2.2.cell (p:=⟨b,o+k,none⟩) G).symm.trans xa);have xh:=Ae (Zr x y z Y xf xi xj xn);have xm:(x:Int)*y+z+Y<=18446744073709551615:=xh.out.2.2.2.2.2;have xl:0<=(x:Int)*y+z+Y:=xh.out.2.2.2.2.1;have xF:¬n<=k:=by omega
     have xt:¬m<=j:=by omega
     have xG:¬n+m<=k+j:=by omega
     have xx:IntKind.i64.wrap ((k:Int)+j)=(k:Int)+j:=IntWalk.i64_in _ ZbK;have xy:((k:Int)+j).toNat=k+j:=by omega
     have xH:(k:Int)+j<(n:Int)+m:=by omega
     have xI:0<=(k:Int)+j:=by omega
     have xB:Hid (IntKind.u64.wrap (x:Int)=x):=Ae (IntWalk.u64_in _ ZbK);have xC:Hid (IntKind.u64.wrap (y:Int)=y):=Ae (IntWalk.u64_in _ ZbK);have xD:Hid (IntKind.u64.wrap (z:Int)=z):=Ae (IntWalk.u64_in _ ZbK);replace xx:=Ae xx;replace xy:=Ae xy;go_upto_region 9 with(fail)
     refine wp_region_v ZbM [[], [], [(28, 0), (29, 1)], [(30, 2)], [(31, 3)], [], [], [(33, 5), (34, 6)], [(35, 7)], [(36, 8)], [(32, 4), (37, 9)], [], [], [], [(40, 12), (41, 13)], [(39, 11), (42, 14)], [(43, 15)], [(44, 16)], [(38, 10), (45, 17)], [], [(46, 18), (47, 19)]] [[], [], [0, 1], [0, 1, 2], [0, 1, 2, 3], [], [], [5, 6], [5, 6, 7], [5, 6, 7, 8], [0, 1, 2, 3, 4, 5, 6, 7, 8, 9], [], [], [], [12, 13], [11, 12, 13, 14], [11, 12, 13, 14, 15], [11, 12, 13, 14, 15, 16], [0, 1, 2, 3, 4, 5, 6, 7, 8, 9, 10, 11, 12, 13, 14, 15, 16, 17], [], [0, 1, 2, 3, 4, 5, 6, 7, 8, 9, 10, 11, 12, 13, 14, 15, 16, 17, 18, 19]]
      [λv _=>v=.slice (some ⟨b,o,none⟩) n c,λv _=>v=.int .i64 (k:Int),λv _=>v=.pointer (some ⟨b,o+k,none⟩),λv _=>v=.int .u32 (x:Int),λv _=>v=.int .u64 (x:Int),λv _=>v=.slice (some ⟨M,l,none⟩) m d,λv _=>v=.int .i64 (j:Int),λv _=>v=.pointer (some ⟨M,l+j,none⟩),λv _=>v=.int .u32 (y:Int),λv _=>v=.int .u64 (y:Int),λv _=>v=.int .u64 ((x:Int)*y),λv _=>v=.slice (some ⟨w.heap.size,0,none⟩) (n+m) (n+m),λv _=>v=.int .i64 (k:Int),λv _=>v=.int .i64 (j:Int),λv _=>v=.int .i64 ((k:Int)+j),λv _=>v=.pointer (some ⟨w.heap.size,k+j,none⟩),λv _=>v=.int .u32 (z:Int),λv _=>v=.int .u64 (z:Int),λv _=>v=.int .u64 ((x:Int)*y+z),λv _=>v=.int .u64 (Y:Int),λv _=>v=.int .u64 ((x:Int)*y+z+Y)]
      rfl ZbM ZbM ?stab ?steps ?fin
     case stab=>exact .cons (Stab.eq _) (.cons (Stab.eq _) (.cons (Stab.eq _) (.cons (Stab.eq _) (.cons (Stab.eq _) (.cons (Stab.eq _) (.cons (Stab.eq _) (.cons (Stab.eq _) (.cons (Stab.eq _) (.cons (Stab.eq _) (.cons (Stab.eq _) (.cons (Stab.eq _) (.cons (Stab.eq _) (.cons (Stab.eq _) (.cons (Stab.eq _) (.cons (Stab.eq _) (.cons (Stab.eq _) (.cons (Stab.eq _) (.cons (Stab.eq _) (.cons (Stab.eq _) (.cons (Stab.eq _) .nil))))))))))))))))))))
     case steps=>
      refine .cons ?s0 (.cons ?s1 (.cons ?s2 (.cons ?s3 (.cons ?s4 (.cons ?s5 (.cons ?s6 (.cons ?s7 (.cons ?s8 (.cons ?s9 (.cons ?s10 (.cons ?s11 (.cons ?s12 (.cons ?s13 (.cons ?s14 (.cons ?s15 (.cons ?s16 (.cons ?s17 (.cons ?s18 (.cons ?s19 (.cons ?s20 .nil))))))))))))))))))))
      case s0=>
       intro N h S E s I p;have e0:h (.tmp 0)=.slice (some ⟨b,o,none⟩) n c:=s 0 ZbN;exact Ar (by simp[execOp,e0,go_sem]) rfl
      case s1=>
       intro N h S E s I p;exact ZhB
      case s2=>
       intro N h S E s I p;have xA:h (.tmp 28)=.slice (some ⟨b,o,none⟩) n c:=E.1 _ rfl;have xJ:h (.tmp 29)=.int .i64 (k:Int):=E.2.1 _ rfl;exact Ar (by simp[execOp,xA,xJ,xF,go_sem]) rfl
      case s3=>
       intro N h S E s I p;have xK:h (.tmp 30)=.pointer (some ⟨b,o+k,none⟩):=E.1 _ rfl;have u:N.cell? ⟨b,o+k,none⟩=some (.int .u32 (x:Int)):=S.cellv xE;exact Ar (by simp[execOp,xK,u,go_sem]) rfl
      case s4=>
       intro N h S E s I p;have xL:h (.tmp 31)=.int .u32 (x:Int):=E.1 _ rfl;exact Ar (by simp[execOp,xL,xB.out,go_sem]) rfl
      case s5=>
       intro N h S E s I p;have J:h (.tmp 1)=.slice (some ⟨M,l,none⟩) m d:=s 1 ZbN;exact Ar (by simp[execOp,J,go_sem]) rfl
      case s6=>
       intro N h S E s I p;exact ZhC
      case s7=>
       intro N h S E s I p;have xN:h (.tmp 33)=.slice (some ⟨M,l,none⟩) m d:=E.1 _ rfl;have xO:h (.tmp 34)=.int .i64 (j:Int):=E.2.1 _ rfl;exact Ar (by simp[execOp,xN,xO,xt,go_sem]) rfl
      case s8=>
       intro N h S E s I p;have xP:h (.tmp 35)=.pointer (some ⟨M,l+j,none⟩):=E.1 _ rfl;have u:N.cell? ⟨M,l+j,none⟩=some (.int .u32 (y:Int)):=S.cellv xr;exact Ar (by simp[execOp,xP,u,go_sem]) rfl
      case s9=>
       intro N h S E s I p;have xQ:h (.tmp 36)=.int .u32 (y:Int):=E.1 _ rfl;exact Ar (by simp[execOp,xQ,xC.out,go_sem]) rfl
      case s10=>
       intro N h S E s I p;have xM:h (.tmp 32)=.int .u64 (x:Int):=E.1 _ rfl;have xR:h (.tmp 37)=.int .u64 (y:Int):=E.2.1 _ rfl;exact Ar (by simp[execOp,xM,xR,xh.out.1,go_sem]) rfl
      case s11=>
       intro N h S E s I p;have e5:h (.tmp 5)=.slice (some ⟨w.heap.size,0,none⟩) (n+m) (n+m):=s 5 ZbN;exact Ar (by simp[execOp,e5,go_sem]) rfl
      case s12=>
       intro N h S E s I p;exact ZhB
      case s13=>
       intro N h S E s I p;exact ZhC
      case s14=>
       intro N h S E s I p;have xU:h (.tmp 40)=.int .i64 (k:Int):=E.1 _ rfl;have xV:h (.tmp 41)=.int .i64 (j:Int):=E.2.1 _ rfl;exact Ar (by simp[execOp,xU,xV,xx.out,go_sem]) rfl
      case s15=>
       intro N h S E s I p;have xT:h (.tmp 39)=.slice (some ⟨w.heap.size,0,none⟩) (n+m) (n+m):=E.1 _ rfl;have xW:h (.tmp 42)=.int .i64 ((k:Int)+j):=E.2.1 _ rfl;exact Ar (by simp[execOp,xT,xW,xG,xy.out,xH,xI,go_sem]) rfl
      case s16=>
       intro N h S E s I p;have xX:h (.tmp 43)=.pointer (some ⟨w.heap.size,k+j,none⟩):=E.1 _ rfl;have u:N.cell? ⟨w.heap.size,k+j,none⟩=some (.int .u32 (z:Int)):=S.cellv R;exact Ar (by simp[execOp,xX,u,go_sem]) rfl
      case s17=>
       intro N h S E s I p;have xY:h (.tmp 44)=.int .u32 (z:Int):=E.1 _ rfl;exact Ar (by simp[execOp,xY,xD.out,go_sem]) rfl
      case s18=>
       intro N h S E s I p;have xS:h (.tmp 38)=.int .u64 ((x:Int)*y):=E.1 _ rfl;have xZ:h (.tmp 45)=.int .u64 (z:Int):=E.2.1 _ rfl;exact Ar (by simp[execOp,xS,xZ,xh.out.2.1,go_sem]) rfl
      case s19=>
       intro N h S E s I p;have e7:h (.tmp 7)=.int .u64 (Y:Int):=s 7 ZbN;exact Ar Zey rfl
      case s20=>
       intro N h S E s I p;have ya:h (.tmp 46)=.int .u64 ((x:Int)*y+z):=E.1 _ rfl;have yb:h (.tmp 47)=.int .u64 (Y:Int):=E.2.1 _ rfl;exact Ar (by simp[execOp,ya,yb,xh.out.2.2.1,go_sem]) rfl
     case fin=>
      intro gf N S hF;have xu:=hF 20 _ rfl;simp only[List.length_cons,List.length_nil,Nat.reduceAdd,List.drop_succ_cons,List.drop_zero,List.take_succ_cons,List.take_zero,EG,Act.put,List.setIfInBounds_toArray,List.set_cons_succ,List.set_cons_zero,xu];replace S:=Ae ((Ext.refl _).drew.trans S);have xw:Hid (MulIn w N a H r n m k j x Y):=⟨g.out.1,g.out.2.1,g.out.2.2.1.ext S.out,g.out.2.2.2.1,g.out.2.2.2.2.trans S.out⟩;replace R:=S.out.cellv R;replace xg:=xw.out.2.2.1.frozen (k+j);clear hF xu S g xa xr xE xx xy xF xt xG xH xI xB xC xD;have xo:=Ae (xw.out.step (u:=((x:Int)*y+z+Y)%4294967296) (v:=((x:Int)*y+z+Y)/4294967296) xv Q O.out X.out xf xi xj xn (by rw[Br];simp) (by rw[Br];simp));generalize (x:Int)*y+z+Y=T at *;go_wp2;exact⟨by first | exact xo.out | (rw[Int.emod_emod_of_dvd];exact xo.out),by simp[intOf];omega⟩
    .obtain rfl:j=m:=by omega
     have R:wr.cell? ⟨w.heap.size,k+j,none⟩=some (.int .u32 (r.getD (k+j) 0:Nat)):=by rw[g.out.2.2.1.cell,Dr (by rw[g.out.1];omega)]
     have xg:=g.out.2.2.1.frozen (k+j);have xe:=Ae (g.out.close Q xc.out.symm F.out xn);go_wp2;exact⟨⟨k+1,_,Q,by simp,xe⟩,by simp[intOf];omega⟩
  .obtain rfl:k=n:=by omega
   have hW:Hid (Words wr (.slice (some ⟨w.heap.size,0,none⟩) (k+m) (k+m)) r):=by
    have:=Cn (c:=k+m) V.out.2.2.1 V.out.2.1 (by rw[V.out.1];omega) ZbK;rw[V.out.1]at this;exact this
   have xe:Hid (val r=val a*val H):=by
    have C:=V.out.2.2.2.1;have er:r.take (k+m)=r:=List.take_of_length_le (by rw[V.out.1];omega);have ea:a.take k=a:=List.take_of_length_le ZeU;rw[er,ea]at C;exact C
   go_wp2_with (go_at_call 288;refine(EW _ _ _ hW.out).mono ?_;rintro e N ⟨f,rfl,xd,S⟩);go_ret;refine⟨f,rfl,?_,V.out.2.2.2.2.trans S⟩;rw[AU V.out.2.1,xe.out]at xd;exact xd
theorem Gp(j R:Value)(x y:Nat)(w:World)(s:Words w j (Aq x))(I:Words w R (Aq y)) :
  Calls Tryz.prog 276 #[j,R] w λe N=>e=.returned (.int .i64 (EC x y))/\Ext w N:=by
 obtain⟨A,c,rfl,J,P,G⟩:=s.open_;obtain⟨B,d,rfl,Z,h,O⟩:=I.open_;clear s I;have S:=Ae G;have v:=Ae O;clear G O;obtain⟨n,t⟩:∃n,n=(Aq x).length:=⟨_,rfl⟩;obtain⟨m,L⟩:∃m,m=(Aq y).length:=⟨_,rfl⟩;rw[<-t]at J ⊢;rw[<-L]at Z ⊢;replace t:=Ae t;replace L:=Ae L;rcases Nat.lt_trichotomy n m with Q | heq | hgt
 .have z:decide ((n:Int)<m)=true:=Zhz
  have u:decide ((m:Int)<n)=false:=Zhz
  go_enter Tryz.func276,Tryz.ntmps276;go_wp2;exact Zhb
 .subst heq
  have z:decide ((n:Int)<n)=false:=by simp
  go_enter Tryz.func276,Tryz.ntmps276;go_wp2;go_loopw [5] (λi wr=>∃k:Nat,k<=n/\i=.int .i64 ((k:Int)-1)/\Hid (Ext w wr/\∀i,k<=i->(Aq x).getD i 0=(Aq y).getD i 0)) (λi _=>(intOf i+1).toNat)
  case atStart=>exact Zan
  case round=>
   obtain⟨k,F,rfl,T⟩:=hrel;by_cases U:k=0
   .exact Zao
   .obtain ⟨q, rfl⟩:∃q, k=q+1:=⟨k-1, by omega⟩
    obtain⟨b,o,rfl,I,K⟩:=S.out Zdc;replace K:=(T.out.1.cell (p:=⟨b,o+q,none⟩) I).trans (K q Zdc);obtain⟨r,l,rfl,p,f⟩:=v.out Zen;replace f:=(T.out.1.cell (p:=⟨r,l+q,none⟩) p).trans (f q Zen);generalize V:(Aq x).getD q 0=X at *;generalize a:(Aq y).getD q 0=Y at *;replace V:=Ae V;replace a:=Ae a;have W:((q+1:Nat):Int)-1=q:=by omega
    rw[W];rcases Nat.lt_trichotomy X Y with Q | heq | hgt
    .have g:decide ((X:Int)<Y)=true:=Zhz
     go_wp2;go_quiet (fail);go_wp2;go_ret;exact⟨by rw[Qf (k:=q) ZdF Zdc (λi M=>T.out.2 i M) (by rw[V.out,a.out];exact Q)];rfl,T.out.1.drewN _⟩
    .subst heq
     have g:decide ((X:Int)<X)=false:=by simp
     go_wp2;go_quiet (fail);go_wp2;go_quiet (fail);go_wp2;refine⟨⟨q,by omega,rfl,T.out.1.drewN _,λi M=>?_⟩,by simp[intOf]⟩;rcases Nat.lt_or_ge q i with C | C
     .exact T.out.2 i C
     .obtain rfl:i=q:=by omega
      rw[V.out,a.out]
    .have g:decide ((X:Int)<Y)=false:=Zhz
     have xa:decide ((Y:Int)<X)=true:=Zhz
     have H:¬((X:Int)<Y):=by omega
     go_wp2;go_quiet (fail);go_wp2;go_quiet (fail);go_wp2;exact Zge
 .have z:decide ((n:Int)<m)=false:=Zhz
  have u:decide ((m:Int)<n)=true:=Zhz
  go_enter Tryz.func276,Tryz.ntmps276;go_wp2;exact ZgT
theorem LV(j:Value)(L:List Nat)(d:Nat)(w:World)(s:Words w j L)(J:L.length<=4398046511104)(f:0<d)(g:d<4294967296) :
  Calls Tryz.prog 310 #[j,.int .u64 d] w λe N=>∃M,e=.returned (.tuple #[M,.int .u64 (val L%d:Nat)])/\Words N M (Aq (val L/d))/\Ext w N:=by
 obtain⟨A,c,rfl,I,P,E⟩:=s.open_;have Z:=Ae s.small;clear s;have R:=Ae E;clear E;obtain⟨n,O⟩:∃n,n=L.length:=⟨_,rfl⟩;rw[<-O]at I J ⊢;replace O:=Ae O;have l:=λW=>Cj n ZbK .i64 .i64 W;go_enter Tryz.func310,Tryz.ntmps310;go_wp2;go_loopw [7,8] (λt i wr=>∃(k r:Nat) (q:List Nat),k<=n/\i=.int .i64 ((k:Int)-1)/\t=.int .u64 r/\r<d/\Hid (DsRel w wr L q d n k r)) (λ_ i _=>(intOf i+1).toNat)
 case atStart => exact Zay
 case round=>
  obtain⟨k,r,q,C,rfl,rfl,G,T⟩:=hrel;by_cases U:k=0
  .subst U
   have v:Hid (Words wr (.slice (some ⟨w.heap.size,0,none⟩) n n) q):=by
    exact Zgp
   have V:Hid (val L/d=val q/\val L%d=r):=Zaz
   go_wp2_with (go_at_call 288;refine(EW _ _ _ v.out).mono ?_;rintro e N ⟨M,rfl,a,S⟩);go_ret2;refine⟨M,by rw[V.out.2];rfl,?_,T.out.2.2.2.2.trans S⟩;rw[AU T.out.2.1,<-V.out.1]at a;exact a
  .obtain ⟨k, rfl⟩:∃q, k=q+1:=⟨k-1, by omega⟩
   obtain⟨b,o,rfl,F,Q⟩:=R.out Zdq;replace Q:=(T.out.2.2.2.2.cell (p:=⟨b,o+k,none⟩) F).trans (Q k Zdq);have h:=AI Z.out k;have K:wr.cell? ⟨w.heap.size,k,none⟩=some (.int .u32 (q.getD k 0:Nat)):=Ziy
   have X:=T.out.2.2.1.frozen k;generalize E:L.getD k 0=x at *;replace E:=Ae E;unfold BB at h;have Y:((k+1:Nat):Int)-1=k:=by omega
   rw[Y];exact ZfQ
theorem NL(v:Value)(l:List Nat)(w:World)(h:Words w v l)(i:l.length<=2) :
  Calls Tryz.prog 315 #[v] w λe N=>e=.returned (.int .u64 (val l:Nat))/\w=N:=by
 have g:=AI h.small 0;have A:=AI h.small 1
 have q:Hid (val l=l.getD 0 0+BB*l.getD 1 0):=by
  match l,i with
  |[],_=>simp[val,Hid]
  |[a],_=>simp[val,Hid]
  |[a,b],_=>simp[val,Hid]
 replace h:=Ae h;generalize E:l.getD 0 0=x at *;generalize O:l.getD 1 0=y at *;replace E:=Ae E;replace O:=Ae O;unfold BB at g A;go_enter Tryz.func315,Tryz.ntmps315;go_wp2_with fail;refine(GV v l 1 y _ h.out O.out).mono ?_;rintro e B ⟨rfl,rfl⟩;go_wp2_with fail;refine(GV v l 0 x _ h.out E.out).mono ?_;rintro e B ⟨rfl,rfl⟩;go_wp2;go_ret;exact⟨by rw[q.out,Br,show x+4294967296*y=y*4294967296+x by omega];rfl,rfl⟩
theorem Vt(a b:Nat)(w:World)(s:a<18446744073709551616)(F:b<18446744073709551616) :
  Calls Tryz.prog 314 #[.int .u64 a,.int .u64 b] w λe N=>e=.returned (.int .u64 (Nat.gcd a b:Nat))/\w=N:=by
 go_enter Tryz.func314,Tryz.ntmps314;go_wp2;go_loop [0,1] (λx y=>∃p q:Nat,p<18446744073709551616/\q<18446744073709551616/\x=.int .u64 p/\y=.int .u64 q/\Hid (Nat.gcd p q=Nat.gcd a b)) (λ_ y=>(intOf y).toNat)
 case atStart=>exact⟨a,b,s,F,rfl,rfl,rfl⟩
 case round=>
  obtain⟨p,q,G,B,rfl,rfl,I⟩:=hrel;by_cases g:q=0
  .subst g
   go_wp2;go_ret;exact⟨by rw[<-I.out,Nat.gcd_zero_right];rfl,rfl⟩
  .have m:0<q:=by omega
   have Z:decide ((0:Int)<q)=true:=by simpa using m
   obtain⟨r,A⟩:∃r,r=p%q:=⟨_,rfl⟩;have v:(p:Int)%(q:Int)=(r:Int):=by rw[A];rfl
   have Q:r<q:=by rw[A];exact Nat.mod_lt _ m
   replace A:=Ae A;go_wp2;go_round
   case rel=>exact⟨q,r,B,by omega,rfl,by rw[<-v],by rw[A.out,<-I.out,Nat.gcd_comm p q,Nat.gcd_rec q p];exact Nat.gcd_comm _ _⟩
   case measure=>simp[intOf];omega
theorem Win.ext{b:Nat}{pre x post:List Nat}(h:Win w b pre x post)(X:Ext w p):Win p b pre x post:=Blk.ext h X
theorem Only.ext{b:Nat}(h:Only b w p)(X:Ext p uz):Only b w uz:=⟨X.os.trans h.os,X.tape.trans h.tape,X.output.trans h.output,Nat.le_trans h.size X.size,λk C z=>(X.block (Nat.lt_of_lt_of_le C h.size)).trans (h.block k C z)⟩
def Vv(w:World)(u v:List Nat)(e:Ending)(N:World):Prop:=∃q:Nat,e=.returned (.int .u64 q)/\q<BB/\val u/val v<=q/\q*val v<val u+val v/\Ext w N
def A66(w:World)(T A B:Nat)(u v:List Nat)(q r:Value)(F:World):Prop:=
 ∃I n:Nat,q=.int .u64 I/\r=.int .u64 n/\n<4294967296/\I<=8589934592/\Hid (I*T+n=B+BB*A/\val u/val v<=I)/\Hid (Ext w F)
set_option maxRecDepth 1000000 in
theorem Xk(b s ov n cu cv:Nat)(pre post u v:List Nat)(w:World)(N:Win w b pre u post)(K:u.length=n+1)(F:v.length=n)(xf:2<=n)(E:n<=4398046511104)(f:BD u)(X:BD v)
  (xd:∀i,i<n->w.cell? ⟨s,ov+i,none⟩=some (.int .u32 (v.getD i 0:Nat))) (xl:n+1<=cu) (xi:n<=cv) (xg:2147483648<=v.getD (n-1) 0) (Q:val u<BB*val v) :
  Calls Tryz.prog 311 #[.slice (some ⟨b,pre.length,none⟩) (n+1) cu,.slice (some ⟨s,ov,none⟩) n cv] w (Vv w u v):=by
 obtain⟨m,rfl⟩:∃m,n=m+2:=⟨n-2,by omega⟩;have O:=Ae (A4O K F f X ZdS Q);have xa:=N.cell (k:=m+2) ZbK;have g:=N.cell (k:=m+1) ZbK;have d:=N.cell (k:=m) ZbK;have U:=xd (m+1) ZbK;have p:=xd m ZbK;have xc:=AI f (m+2);have xm:=AI f (m+1);have xx:=AI f m;have y:=AI X (m+1);have xe:=AI X m;have xy:2147483648<=v.getD (m+1) 0:=xg;generalize xr:u.getD (m+2) 0=z at *;generalize xs:u.getD (m+1) 0=H at *;generalize xq:u.getD m 0=U2 at *;generalize xt:v.getD (m+1) 0=W at *;generalize xu:v.getD m 0=V2 at *;replace xr:=Ae xr;replace xs:=Ae xs;replace xq:=Ae xq;replace xt:=Ae xt;replace xu:=Ae xu;unfold BB at xc xm xx y xe;replace N:=Ae N;replace K:=Ae K;replace F:=Ae F;replace f:=Ae f;replace X:=Ae X;replace xd:=Ae xd;replace Q:=Ae Q;clear xg;generalize R:pre.length=P at *;replace R:=Ae R;have t:m<=4398046511102:=by omega
 clear E xf;go_enter Tryz.func311,Tryz.ntmps311;go_wp2;go_quiet (fail)
 have h:Hid (((z:Int)*4294967296+H)/W=((H+BB*z)/W:Nat)/\((z:Int)*4294967296+H)%W=((H+BB*z)%W:Nat)):=by
  have e:(z:Int)*4294967296+H=((H+BB*z:Nat):Int):=by rw[Br];omega
  exact Zhh
 go_upto_block 0 with(fail)
 rw[h.out.1,h.out.2];go_cut [7,8] (λq r wx=>∃qn:Nat,q=.int .u64 qn/\qn<4294967296/\Hid (val u/val v<=qn/\qn*val v<val u+val v)/\Hid (Ext w wx))
 case first=>
  go_wp2;go_loopw [7,8] (λq r wx=>A66 w W z H u v q r wx) (λq _ _=>(intOf q).toNat)
  case atStart=>
   have k:0<W:=by omega
   refine⟨_,_,rfl,rfl,?_,?_,⟨?_,?_⟩,?_⟩
   .have:=Nat.mod_lt (H+BB*z) k;omega
   .refine Nat.le_of_lt (Nat.div_lt_of_lt_mul ?_)
    have:2147483648*8589934592<=W*8589934592:=Nat.mul_le_mul_right _ xy;rw[Br];omega
   .rw [Nat.mul_comm];exact Nat.div_add_mod _ _
   .exact O.out.start
   .exact (Ext.refl _).drewN _
  case round=>
   obtain⟨q,r,rfl,rfl,C,I,T,S⟩:=hrel;have l:=S.out.cellv d;have o:wr.cell? ⟨s,ov+(m+1),none⟩=some (.int .u32 (W:Nat)):=S.out.cellv U;have j:wr.cell? ⟨s,ov+m,none⟩=some (.int .u32 (V2:Nat)):=S.out.cellv p;clear xa g d U p;have xv:=Ae (λJ=>O.out.down T.out.1 T.out.2 (q:=q) (r:=r) J);have c:Hid (∀q' M,q'*W+M=H+BB*z->val u/val v<=q'->q'<BB->q'*V2<=M*BB+U2->val u/val v<=q'/\q'*val v<val u+val v):=λq' M A B L V=>⟨B,O.out.after A L V⟩;have xw:Hid (∀q' M,q'*W+M=H+BB*z->BB<=M->q'<BB/\q'*V2<=M*BB+U2):=λq' M A B=>O.out.great A B;by_cases x:4294967296<=q
   .have xj:decide ((4294967296:Int)<=q)=true:=Zhz
    replace x:=Ae x;replace I:=Ae I;have Z:=Ae (xv.out (.inl (by rw[Br];exact x.out)));by_cases a:4294967296<=r+W
    .have xp:(4294967296:Int)<=(r:Int)+W:=by omega
     replace a:=Ae a;go_wp2;go_quiet (fail);have Y:(1:Int)<=q:=by have:=x.out;omega
     have xk:(q:Int)<=8589934592:=by have:=I.out;omega
     clear xj;go_wp2;go_meet
     case rel=>
      exact ZfE
    .have xp:decide ((4294967296:Int)<=(r:Int)+W)=false:=Zhz
     replace a:=Ae a;go_wp2;go_quiet (fail);have Y:(1:Int)<=q:=by have:=x.out;omega
     have xk:(q:Int)<=8589934592:=by have:=I.out;omega
     clear xj;exact ZfJ
   .have xj:decide ((4294967296:Int)<=q)=false:=Zhz
    have xo:q<4294967296:=by omega
    replace x:=Ae x;replace I:=Ae I;have G:(q:Int)*V2<=18446744065119617025:=by have:=EU xo xe;omega
    have xb:(0:Int)<=(q:Int)*V2:=Int.mul_nonneg ZbK ZbK;by_cases xh:r*4294967296+U2<q*V2
    .have xn:decide ((r:Int)*4294967296+U2<(q:Int)*V2)=true:=Zhz
     have Z:=Ae (xv.out (.inr (by rw[Br];exact xh)));replace xh:=Ae xh;have Y:(1:Int)<=q:=by have:=Z.out.1;omega
     by_cases a:4294967296<=r+W
     .have xp:decide ((4294967296:Int)<=(r:Int)+W)=true:=Zhz
      replace a:=Ae a;go_wp2;go_quiet (fail);clear G xb xn xj;go_wp2;go_meet
      case rel=>
       exact ZfE
     .have xp:decide ((4294967296:Int)<=(r:Int)+W)=false:=Zhz
      replace a:=Ae a;go_wp2;go_quiet (fail);clear G xb xn xj;exact ZfJ
    .have xn:decide ((r:Int)*4294967296+U2<(q:Int)*V2)=false:=Zhz
     replace xh:=Ae xh;go_wp2;go_quiet (fail);go_wp2;go_meet
     case rel=>exact⟨q,rfl,xo,c.out _ _ T.out.1 T.out.2 (by rw[Br];exact xo) (by have:=xh.out;rw[Br];omega),S.out.drewN _⟩
 case rest=>
  obtain⟨q,rfl,I,T,S⟩:=hcut;clear xa g d U p;go_wp2;go_ret;exact⟨q,rfl,by rw[Br];exact I,T.out.1,T.out.2,S.out⟩
def LsRel(w wr:World)(b:Nat)(pre post u v x:List Nat)(n q k cy o:Nat):Prop:=
 x.length=n/\BD x/\Win wr b pre x post/\Only b w wr/\val (x.take k)+q*val (v.take k)=val (u.take k)+BB^k*(cy+o)/\(∀i,k<=i->x.getD i 0=u.getD i 0)/\(v.length<k->cy=0)
theorem LsRel.step{pre post u v x:List Nat}{A q k cy o y z:Nat}(h:LsRel w p n pre post u v x A q k cy o)(E:k<A)(O:v.getD k 0=y)(N:x.getD k 0=z)(R:z<BB)(F:o<=1)(a:cy<BB){e:Int}
  (G:e=(z+BB*(if z<(q*y+cy)%BB+o then 1 else 0)-(q*y+cy)%BB-o:Nat)) :
  LsRel w (p.setCell ⟨n,pre.length+k,none⟩ (.int .u32 e)) n pre post u v (x.set k (z+BB*(if z<(q*y+cy)%BB+o then 1 else 0)-(q*y+cy)%BB-o)) A q (k+1) ((q*y+cy)/BB) (if z<(q*y+cy)%BB+o then 1 else 0):=by
 obtain⟨B,C,L,V,m,J,d⟩:=h;have t:=Nat.mod_lt (q*y+cy) Cv;have Y:z+BB*(if z<(q*y+cy)%BB+o then 1 else 0)-(q*y+cy)%BB-o<BB:=by split<;>omega
 have b:z+BB*(if z<(q*y+cy)%BB+o then 1 else 0)-(q*y+cy)%BB-o+((q*y+cy)%BB+o)=z+BB*(if z<(q*y+cy)%BB+o then 1 else 0):=by split<;>omega
 generalize (if z<(q*y+cy)%BB+o then 1 else 0:Nat)=c at *;generalize S:z+BB*c-(q*y+cy)%BB-o=X at *;refine⟨by simpa using B,CQ C k Y,by rw[G];exact L.set ZbK X,V.set _ _,?_,λi M=>?_,λK=>?_⟩
 .rw [AM, CS, BX ZbK, AM u, AM v, O, <-J k (Nat.le_refl _), N]
  have I:=Nat.mod_add_div (q*y+cy) BB
  have Q:BB^(k+1)*((q*y+cy)/BB+c)+BB^k*z=BB^k*X+q*(BB^k*y)+BB^k*(cy+o):=ZaA
  rw[Nat.mul_add q];omega
 .exact ZaB
 .have Z:y=0:=by rw [<-O];simp [show v.length<=k by omega]
  rw[Z,Nat.mul_zero,Nat.zero_add];exact Nat.div_eq_of_lt a
theorem A5j{q y c z d:Nat}(B:z<4294967296)(Z:d<=1) :
  (4294967296+(z:Int)-((q:Int)*y+c)%4294967296-d)%4294967296=((z+BB*(if z<(q*y+c)%BB+d then 1 else 0)-(q*y+c)%BB-d:Nat):Int) /\
  1-(4294967296+(z:Int)-((q:Int)*y+c)%4294967296-d)/4294967296=((if z<(q*y+c)%BB+d then 1 else 0:Nat):Int) /\
  ((q:Int)*y+c)/4294967296=(((q*y+c)/BB:Nat):Int)/\0<=4294967296+(z:Int)-((q:Int)*y+c)%4294967296-d/\4294967296+(z:Int)-((q:Int)*y+c)%4294967296-d<=8589934591:=by
 have e:(q:Int)*y+c=((q*y+c:Nat):Int):=by simp[Int.natCast_add,Int.natCast_mul]
 have t:=Nat.mod_lt (q*y+c) Cv;have v:((q:Int)*y+c)%4294967296=(((q*y+c)%BB:Nat):Int):=by rw[e,Br,Int.natCast_emod];rfl
 have x:((q:Int)*y+c)/4294967296=(((q*y+c)/BB:Nat):Int):=by rw[e,Br,Int.natCast_ediv];rfl
 rw[v,x];generalize (q*y+c)%BB=p at *;rw[Br]at t ⊢;refine⟨?_,?_,rfl,by omega,by omega⟩<;>(split<;>omega)
def A4i(w:World)(b:Nat)(pre post u v:List Nat)(q:Nat)(e:Ending)(N:World):Prop:=
 ∃x:List Nat,e=.returned (.bool (decide (val u<q*val v)))/\x.length=u.length/\BD x/\Win N b pre x post/\Only b w N/\val x+q*val v=val u+BB^u.length*(if val u<q*val v then 1 else 0)
theorem LsRel.close{b:Nat}{pre post u v x:List Nat}{n q cy o:Nat}(h:LsRel w p b pre post u v x n q n cy o)(E:u.length=n)(C:v.length<n)(F:o<=1):o=(if val u<q*val v then 1 else 0)/\val x+q*val v=val u+BB^n*(if val u<q*val v then 1 else 0):=by
 obtain⟨A,B,L,V,m,z,d⟩:=h;rw[List.take_of_length_le ZbK,List.take_of_length_le ZbK,List.take_of_length_le ZbK,d C,Nat.zero_add]at m;have G:=Dw B;rw[A]at G
 have key:o=(if val u<q*val v then 1 else 0):=by
  rcases Nat.eq_zero_or_pos o with g | g
  .subst g;rw[if_neg ZbK]
  .have:o=1:=by omega
   subst this;rw[if_pos ZbK]
 exact⟨key,by rw[<-key];exact m⟩
theorem Vs(b n g:Nat)(H:Value)(pre post u v:List Nat)(q P:Nat)(w:World)(R:pre.length=P)(S:Win w b pre u post)(L:u.length=n)(F:v.length<n)(E:n<=4398046511105)(a:BD u)(W:BD v)
  (t:∀wr,Only b w wr->Words wr H v) (xa:n<=g) (I:q<BB) :
  Calls Tryz.prog 312 #[.slice (some ⟨b,P,none⟩) n g,H,.int .u64 q] w (A4i w b pre post u v q):=by
 replace S:=Ae S;replace L:=Ae L;replace a:=Ae a;replace W:=Ae W;replace t:=Ae t;replace R:=Ae R;replace F:=Ae F;unfold BB at I;go_enter Tryz.func312,Tryz.ntmps312;go_wp2;go_loopw [7,8,9] (λY o i wr=>∃(k c d:Nat) (x:List Nat),k<=n/\i=.int .i64 k/\Y=.int .u64 c/\o=.int .u64 d/\c<4294967296/\d<=1/\Hid (LsRel w wr b pre post u v x n q k c d)) (λ_ _ i _=>n-(intOf i).toNat)
 case atStart=>exact⟨0,0,0,u,Nat.zero_le _,rfl,rfl,rfl,by omega,by omega,L.out,a.out,S.out,Only.refl _ _,by simp[val],λ_ _=>rfl,λh=>by omega⟩
 case round=>
  obtain⟨k,c,d,x,C,rfl,rfl,rfl,U,p,j⟩:=hrel;by_cases Q:k<n
  .have s:decide ((k:Int)<n)=true:=by simpa using Q
   have l:wr.cell? ⟨b,P+k,none⟩=some (.int .u32 (x.getD k 0:Nat)):=by
    have:=j.out.2.2.1.cell (k:=k) Zdr;rw[R.out]at this;exact this
   have f:=j.out.2.2.1.frozen (P+k);have X:=AI W.out k;have Z:=AI j.out.2.1 k;generalize O:v.getD k 0=y at *;generalize K:x.getD k 0=z at *;replace O:=Ae O;replace K:=Ae K;unfold BB at X Z;have G:(q:Int)*y<=18446744065119617025:=by have:=EU I X;omega
   have m:(0:Int)<=(q:Int)*y:=Int.mul_nonneg ZbK ZbK;have V:=Ae (A5j (q:=q) (y:=y) (c:=c) (z:=z) (d:=d) Z p)
   have xb:Hid ((q*y+c)/BB<4294967296):=by
    have:=EU I X;show _/BB<4294967296;rw[Br];omega
   have J:=Ae (j.out.step Q O.out K.out (by rw[Br];exact Z) p (cy:=c) (by rw[Br];exact U) rfl);rw[R.out]at J;go_wp2_with fail;refine(GV H v k y _ (t.out _ j.out.2.2.2.1) O.out).mono ?_;rintro e M ⟨rfl,rfl⟩;clear j;obtain⟨T,N⟩:∃T:Int,T=(q:Int)*y+c:=⟨_,rfl⟩;have xf:T<=18446744073709551615:=by omega
   have xe:0<=T:=by omega
   rw[<-N]at V;replace N:=Ae N;have xc:0<=4294967296+(z:Int)-T%4294967296-d:=V.out.2.2.2.1;have xd:4294967296+(z:Int)-T%4294967296-d<=8589934591:=V.out.2.2.2.2;go_upto_region 7 with(fail)
   rw[<-N.out];clear G m;go_wp2;rw[V.out.1,V.out.2.1,V.out.2.2.1];exact⟨⟨k+1,_,_,_,Q,by simp,rfl,rfl,xb.out,by split<;>omega,J.out⟩,by simp[intOf];omega⟩
  .obtain rfl:k=n:=by omega
   have s:decide ((k:Int)<k)=false:=by simp
   obtain⟨A,B⟩:=j.out.close L.out F.out p;replace A:=Ae A;replace B:=Ae B;rcases(show d=0\/d=1 by omega)with rfl | rfl
   .go_wp2
    go_ret;have r:¬val u<q*val v:=λh=>by have:=A.out;rw[if_pos h]at this;omega
    exact ZiB
   .go_wp2
    go_ret
    have r:val u<q*val v:=by
     rcases Nat.lt_or_ge (val u) (q*val v)with h | h
     .exact h
     .have:=A.out;rw[if_neg ZbK]at this;omega
    exact ZiB
def RsRel(w wr:World)(b:Nat)(pre post q v x:List Nat)(n k K:Nat):Prop:=
 x.length=n/\BD x/\Win wr b pre x post/\Only b w wr/\val (x.take k)+BB^k*K=val (q.take k)+val (v.take k)/\∀i,k<=i->x.getD i 0=q.getD i 0
theorem RsRel.step{pre post q v x:List Nat}{A k K y z:Nat}(h:RsRel w p n pre post q v x A k K)(E:k<A)(O:v.getD k 0=y)(J:x.getD k 0=z)(N:y<BB)(Q:z<BB)(I:K<=1){e:Int}(X:e=((z+y+K)%BB:Nat)) :
  RsRel w (p.setCell ⟨n,pre.length+k,none⟩ (.int .u32 e)) n pre post q v (x.set k ((z+y+K)%BB)) A (k+1) ((z+y+K)/BB)/\(z+y+K)/BB<=1:=ZaC
def A4h(w:World)(b:Nat)(pre post u v:List Nat)(e:Ending)(N:World):Prop:=
 ∃(x:List Nat) (c:Nat),e=.returned (.tuple #[])/\x.length=u.length/\BD x/\Win N b pre x post/\Only b w N/\val x+BB^u.length*c=val u+val v/\c<=1
theorem Tr(b n o:Nat)(vv:Value)(pre post u v:List Nat)(P:Nat)(w:World)(R:pre.length=P)(K:Win w b pre u post)(L:u.length=n)(q:v.length<=n)(B:n<=4398046511105)(f:BD u)(Y:BD v)
  (xa:∀wr,Only b w wr->Words wr vv v) (xd:n<=o) :
  Calls Tryz.prog 313 #[.slice (some ⟨b,P,none⟩) n o,vv] w (A4h w b pre post u v):=by
 replace K:=Ae K;replace L:=Ae L;replace f:=Ae f;replace Y:=Ae Y;replace xa:=Ae xa;replace R:=Ae R;replace q:=Ae q;go_enter Tryz.func313,Tryz.ntmps313;go_wp2;go_loopw [4,5] (λa i wr=>∃(k c:Nat) (x:List Nat),k<=n/\i=.int .i64 k/\a=.int .u64 c/\c<=1/\Hid (RsRel w wr b pre post u v x n k c)) (λ_ i _=>n-(intOf i).toNat)
 case atStart=>exact⟨0,0,u,Nat.zero_le _,rfl,rfl,by omega,L.out,f.out,K.out,Only.refl _ _,by simp[val],λ_ _=>rfl⟩
 case round=>
  obtain⟨k,c,x,C,rfl,rfl,xc,j⟩:=hrel;by_cases Q:k<n
  .have T:decide ((k:Int)<n)=true:=by simpa using Q
   have l:wr.cell? ⟨b,P+k,none⟩=some (.int .u32 (x.getD k 0:Nat)):=by
    have:=j.out.2.2.1.cell (k:=k) Zdr;rw[R.out]at this;exact this
   have Z:=AI Y.out k;have d:=AI j.out.2.1 k;generalize O:v.getD k 0=y at *;generalize F:x.getD k 0=z at *;replace O:=Ae O;replace F:=Ae F;unfold BB at Z d;have xn:=Ae (xa.out _ j.out.2.2.2.1);have M:¬n<=k:=by omega
   have H:Hid (IntKind.u64.wrap (z:Int)=z):=Ae (IntWalk.u64_in _ ZbK);have r:Hid (IntKind.u64.wrap ((z:Int)+y)=(z:Int)+y):=Ae (IntWalk.u64_in _ ZbK);have t:Hid (IntKind.u64.wrap ((z:Int)+y+c)=(z:Int)+y+c):=Ae (IntWalk.u64_in _ ZbK);go_upto_region 4 with(fail)
   refine wp_region_v ZbM [[], [], [(13, 0), (14, 1)], [(15, 2)], [(16, 3)], [], [], [(18, 5), (19, 6)], [(17, 4), (20, 7)], [], [(21, 8), (22, 9)]] [[], [], [0, 1], [0, 1, 2], [0, 1, 2, 3], [], [], [5, 6], [0, 1, 2, 3, 4, 5, 6, 7], [], [0, 1, 2, 3, 4, 5, 6, 7, 8, 9]]
    [λv _=>v=.slice (some ⟨b,P,none⟩) n o,λv _=>v=.int .i64 (k:Int),λv _=>v=.pointer (some ⟨b,P+k,none⟩),λv _=>v=.int .u32 (z:Int),λv _=>v=.int .u64 (z:Int),λv _=>v=vv,λv _=>v=.int .i64 (k:Int),λv _=>v=.int .u64 (y:Int),λv _=>v=.int .u64 ((z:Int)+y),λv _=>v=.int .u64 (c:Int),λv _=>v=.int .u64 ((z:Int)+y+c)]
    rfl ZbM ZbM ?stab ?steps ?fin
   case stab=>exact .cons (Stab.eq _) (.cons (Stab.eq _) (.cons (Stab.eq _) (.cons (Stab.eq _) (.cons (Stab.eq _) (.cons (Stab.eq _) (.cons (Stab.eq _) (.cons (Stab.eq _) (.cons (Stab.eq _) (.cons (Stab.eq _) (.cons (Stab.eq _) .nil))))))))))
   case steps=>
    refine .cons ?s0 (.cons ?s1 (.cons ?s2 (.cons ?s3 (.cons ?s4 (.cons ?s5 (.cons ?s6 (.cons ?s7 (.cons ?s8 (.cons ?s9 (.cons ?s10 .nil))))))))))
    case s0=>
     intro N h S C s I p;have V:h (.tmp 0)=.slice (some ⟨b,P,none⟩) n o:=s 0 ZbN;exact Ar (by simp[execOp,V,go_sem]) rfl
    case s1=>
     intro N h S C s I p;exact ZgH
    case s2=>
     intro N h S C s I p;have xe:h (.tmp 13)=.slice (some ⟨b,P,none⟩) n o:=C.1 _ rfl;have xo:h (.tmp 14)=.int .i64 (k:Int):=C.2.1 _ rfl;exact Ar (by simp[execOp,xe,xo,M,go_sem]) rfl
    case s3=>
     intro N h S C s I p;have xg:h (.tmp 15)=.pointer (some ⟨b,P+k,none⟩):=C.1 _ rfl;have J:N.cell? ⟨b,P+k,none⟩=some (.int .u32 (z:Int)):=S.cellv l;exact Ar (by simp[execOp,xg,J,go_sem]) rfl
    case s4=>
     intro N h S C s I p;have xh:h (.tmp 16)=.int .u32 (z:Int):=C.1 _ rfl;exact Ar (by simp[execOp,xh,H.out,go_sem]) rfl
    case s5=>
     intro N h S C s I p;have A:h (.tmp 1)=vv:=s 1 ZbN;exact Ar (by simp[execOp,A,go_sem]) rfl
    case s6=>
     intro N h S C s I p;exact ZgH
    case s7=>
     intro N h S C s I p;have xj:h (.tmp 18)=vv:=C.1 _ rfl;have xk:h (.tmp 19)=.int .i64 (k:Int):=C.2.1 _ rfl;refine Cl (by simp[execOp,resolve,invoke,p,xj,xk,go_sem]) (GV _ v k y _ (xn.out.ext ((Ext.refl _).drew.trans S)) O.out) ?_;rintro e G ⟨rfl,rfl⟩;exact⟨_,rfl,Ext.refl _,rfl⟩
    case s8=>
     intro N h S C s I p;have xi:h (.tmp 17)=.int .u64 (z:Int):=C.1 _ rfl;have xf:h (.tmp 20)=.int .u64 (y:Int):=C.2.1 _ rfl;exact Ar (by simp[execOp,xi,xf,r.out,go_sem]) rfl
    case s9=>
     intro N h S C s I p;have W:h (.tmp 4)=.int .u64 (c:Int):=s 4 ZbN;exact Ar (by simp[execOp,W,go_sem]) rfl
    case s10=>
     intro N h S C s I p;have xl:h (.tmp 21)=.int .u64 ((z:Int)+y):=C.1 _ rfl;have xm:h (.tmp 22)=.int .u64 (c:Int):=C.2.1 _ rfl;exact Ar (by simp[execOp,xl,xm,t.out,go_sem]) rfl
   case fin=>
    intro gf N S hF;have xb:=hF 10 _ rfl;simp only[List.length_cons,List.length_nil,Nat.reduceAdd,List.drop_succ_cons,List.drop_zero,List.take_succ_cons,List.take_zero,EG,Act.put,List.setIfInBounds_toArray,List.set_cons_succ,List.set_cons_zero,xb];replace S:=(Ext.refl wr).drew.trans S;have U:RsRel w N b pre post u v x n k c:=⟨j.out.1,j.out.2.1,j.out.2.2.1.ext S,j.out.2.2.2.1.ext S,j.out.2.2.2.2.1,j.out.2.2.2.2.2⟩;have xp:=S.cellv l;have g:=U.2.2.1.frozen (P+k);have E:=Ae (U.step Q O.out F.out (by rw[Br];exact Z) (by rw[Br];exact d) xc (e:=((z:Int)+y+c)%4294967296) ZcJ);rw[R.out]at E;clear hF xb S j U l xn r t H;go_wp2;exact⟨⟨k+1,(z+y+c)/BB,_,Q,by simp,by rw[Br];congr 1,E.out.2,E.out.1⟩,by simp[intOf];omega⟩
  .obtain rfl:k=n:=by omega
   have T:decide ((k:Int)<k)=false:=by simp
   have m:=j.out.2.2.2.2.1;rw[List.take_of_length_le Zdr,List.take_of_length_le (by rw[L.out];omega),List.take_of_length_le q.out]at m;replace m:=Ae m;go_wp2;refine bodyPost_ret (v:=.tuple #[]) (by simp[results,Tryz.results313,go_sem]) rfl ?_;exact⟨x,c,rfl,j.out.1.trans L.out.symm,j.out.2.1,j.out.2.2.1,j.out.2.2.2.1,by rw[L.out];exact m.out,xc⟩
end
end Go.Proofs.YtcikkglcoeedlaaGreat
