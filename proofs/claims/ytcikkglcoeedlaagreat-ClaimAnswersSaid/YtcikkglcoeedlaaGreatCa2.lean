/- Part 2 of the proof of claimAnswers_holds. No condition. -/
import Derived.Test.YtcikkglcoeedlaaGreatCa1
set_option linter.unusedSimpArgs false
set_option linter.unusedVariables false
set_option maxRecDepth 100000
set_option maxHeartbeats 800000
namespace Go.Proofs.YtcikkglcoeedlaaGreat
open Go.RowKit
variable{n b:Nat}{w p:World}
theorem EW(v:Value)(l:List Nat)(w:World)(h:Words w v l) :
  Calls Tryz.prog 288 #[v] w λe N=>∃S,e=.returned S/\Words N S (DB l)/\Ext w N:=by
 obtain⟨A,c,rfl,I,G,E⟩:=h.open_;have H:=Ae h;have f:=Ae h.small;clear h;have O:=Ae E;clear E;obtain⟨n,i⟩:∃n,n=l.length:=⟨_,rfl⟩;rw[<-i]at I ⊢;have M:=Ae i;clear i;go_enter Tryz.func288,Tryz.ntmps288;go_wp2;go_loop [3] (λt=>∃k:Nat,k<=n/\t=.int .i64 k/\Hid (DB l=DB (l.take k))) (λt=>(intOf t).toNat)
 case atStart=>exact Zik
 case round=>
  exact Zam
theorem Hf(neg:Bool)(v:Value)(l:List Nat)(w:World)(h:Words w v l) :
  Calls Tryz.prog 239 #[.bool neg,v] w λe N=>Ik (IG neg (val l)) w e N:=by
 have f:=Ae h.small;have H:=Ae h;clear h;go_enter Tryz.func239,Tryz.ntmps239;go_wp2_with fail;refine(EW _ _ _ (H.out.ext ((Ext.refl _).alloc _))).mono ?_;rintro e C ⟨B,rfl,a,S⟩;rw[AU f.out]at a;obtain⟨A,c,rfl,I,t,E⟩:=a.open_;replace E:=Ae E;obtain⟨F,G⟩:=S.cells;by_cases g:(Aq (val l)).length=0
 .have U:=Ae (Ba.1 g)
  generalize i:(Aq (val l)).length=n at *;subst g;replace i:=Ae i;have Z:Hid (Aq (val l)=[]):=by rw[U.out];exact BA
  rw[Z.out]at a;replace a:=Ae a
  cases neg with
  |false=>
   exact Zas
  |true=>
   exact Zas
 .have U:=Ae (λe=>g (Ba.2 e))
  have z:decide ((0:Int)<((Aq (val l)).length:Int))=true:=Zhz
  have K:0<(Aq (val l)).length:=by omega
  replace a:=Ae a;generalize i:(Aq (val l)).length=n at *;replace i:=Ae i
  cases neg with
  |false=>
   go_wp2;refine bodyPost_ret (v:=.agg #[.bool false,.slice A n c]) ZdI rfl ⟨_,_,_,_,rfl,⟨?_,?_⟩,?_⟩
   .rw [SB U.out]
   .exact Zat
   .exact Zil
  |true=>
   go_wp2;refine bodyPost_ret (v:=.agg #[.bool true,.slice A n c]) ZdI rfl ⟨_,_,_,_,rfl,⟨?_,?_⟩,?_⟩
   .rw [SB U.out]
   .exact Zat
   .exact Zil
theorem A0l(v:Value)(l:List Nat)(i:Nat)(w:World)(h:Words w v l) :
  Calls Tryz.prog 309 #[v,.int .i64 i] w λe N=>e=.returned (.int .u64 (l.getD i 0:Nat))/\w=N:=by
 obtain⟨A,c,rfl,I,t,E⟩:=h.open_;have f:=AI h.small i;by_cases M:i<l.length
 .obtain ⟨b, o, rfl, F, J⟩:=E ZbK
  replace J:=J i M;clear E h;generalize l.getD i 0=x at *;generalize l.length=n at *;unfold BB at f;have Z:decide ((i:Int)<n)=true:=by simpa using M
  go_enter Tryz.func309,Tryz.ntmps309;go_wp2;go_ret;exact⟨rfl,rfl⟩
 .have g:Hid (l.getD i 0=0):=by simp [show l.length<=i by omega, Hid]
  clear E h f;generalize l.length=n at *;have Z:decide ((i:Int)<n)=false:=Zhz
  go_enter Tryz.func309,Tryz.ntmps309;go_wp2;go_ret;exact⟨by rw[g.out];rfl,rfl⟩
theorem GV(v:Value)(l:List Nat)(i x:Nat)(w:World)(h:Words w v l)(E:l.getD i 0=x) :
  Calls Tryz.prog 309 #[v,.int .i64 i] w λe N=>e=.returned (.int .u64 (x:Nat))/\w=N:=by
 subst E;exact A0l v l i w h
theorem Hz(m:Nat)(w:World)(t:m<18446744073709551616) :
  Calls Tryz.prog 240 #[.int .u64 m] w λe N=>∃A,e=.returned A/\Words N A (Aq m)/\Ext w N:=by
 have v:Words (w.alloc (.cells (wv [m%BB,m/BB]) 335)) (.slice (some ⟨w.heap.size,0,none⟩) 2 2) [m%BB,m/BB]:=
  Cn (l:=[m%BB,m/BB]) (c:=2) (Blk.new _ _ _) (λx E=>by
   simp at E;rcases E with rfl | rfl
   .exact Nat.mod_lt _ Cv
   .exact Nat.div_lt_of_lt_mul ZcJ) ZbV ZbK
 have q:Hid (val [m%BB,m/BB]=m):=by
  show m%BB+BB*(m/BB+BB*0)=m;exact ZhK
 have c:Hid ((w.alloc (.cells (wv [m%BB,m/BB]) 335))=w.alloc (.cells #[.int .u32 ((m:Int)%4294967296),.int .u32 ((m:Int)/4294967296)] 335)):=by
  simp[wv,Br,Hid]
 have B:=Ae v;have j:=Ae v.small;rw[c.out]at B;clear v;go_enter Tryz.func240,Tryz.ntmps240;go_wp2_with fail;refine(EW _ _ _ B.out).mono ?_;rintro e N ⟨A,rfl,a,S⟩;go_wp2;go_ret;refine⟨A,rfl,?_,((Ext.refl _).alloc _).trans S⟩;rw[AU j.out,q.out]at a;exact a
def AddRel(w wr:World)(N p r:List Nat)(n k K:Nat):Prop:=
 r.length=n/\BD r/\Blk wr w.heap.size 335 (wv r)/\val (r.take k)+BB^k*K=val (N.take k)+val (p.take k)/\Ext w wr
theorem AddRel.step{N M r:List Nat}{n k K x y:Nat}(h:AddRel w p N M r n k K)(C:k<n)(E:N.getD k 0=x)(O:M.getD k 0=y)(Q:x<4294967296)(R:y<4294967296)(I:K<=1){u z:Int}(G:u=((x+K+y)%BB:Nat))(F:z=((x+K+y)/BB:Nat)) :
  ∃(S J:Nat) (g:List Nat),S<=n/\Value.int .i64 ((k:Int)+1)=.int .i64 S/\Value.int .u64 z=.int .u64 J/\J<=1/\Hid (AddRel w (p.setCell ⟨w.heap.size,k,none⟩ (.int .u32 u)) N M g n S J):=by
 obtain⟨A,B,L,V,m⟩:=h;obtain⟨c,v⟩:=Zw ZbK E O (by rw[Br];exact Q) (by rw[Br];exact R) I V;refine⟨k+1,(x+K+y)/BB,r.set k ((x+K+y)%BB),C,by simp,by rw[F],v,by simpa using A,CQ B k (Nat.mod_lt _ Cv),?_,c,?_⟩
 .rw [G,<-If]
  exact L.set k _
 .exact Below.setCell m (Nat.le_refl _) _
theorem AddRel.close{N C r:List Nat}(h:AddRel w p N C r n n b)(i:N.length<n)(t:C.length<n)(hA:BD N)(E:BD C):val r=val N+val C:=by
 obtain⟨A,B,L,V,m⟩:=h;rw[List.take_of_length_le (show N.length<=n by omega),List.take_of_length_le (show C.length<=n by omega),List.take_of_length_le (show r.length<=n by omega)]at V;have F:val N<BB^(n-1):=Nat.lt_of_lt_of_le (Dw hA) (Nat.pow_le_pow_right Cv ZbK);have l:val C<BB^(n-1):=Nat.lt_of_lt_of_le (Dw E) (Nat.pow_le_pow_right Cv ZbK);have e:BB^n=BB*BB^(n-1):=by rw[<-Nat.pow_succ'];exact Zgm
 have v:2*BB^(n-1)<=BB*BB^(n-1):=Nat.mul_le_mul_right _ ZbN;rcases Nat.eq_zero_or_pos b with g | g
 .subst g;omega
 .have:BB^n*1<=BB^n*b:=Nat.mul_le_mul_left _ g
  omega
theorem Xl(j Y:Value)(L p:List Nat)(w:World)(s:Words w j L)(F:Words w Y p)(G:L.length<=4398046511104)(t:p.length<=4398046511104) :
  Calls Tryz.prog 275 #[j,Y] w λe N=>∃M,e=.returned M/\Words N M (Aq (val L+val p))/\Ext w N:=by
 obtain⟨A,c,rfl,I,U,E⟩:=s.open_;obtain⟨B,d,rfl,Z,xc,O⟩:=F.open_;have Ha:=Ae s;have Hb:=Ae F;clear s F E O;have q:=Ae Ha.out.small;have P:=Ae Hb.out.small;have xe:=q;generalize V:L.length=n at *;generalize X:p.length=m at *;replace V:=Ae V;replace X:=Ae X;clear xe;rcases Nat.lt_or_ge n m with xd | xd
 .have o:n<=m:=by omega
  have xb:m<=m:=by omega
  have z:=λW=>Cj (m+1) ZbK .i64 .i64 W;simp only[Int.natCast_add,Int.natCast_one]at z;go_enter Tryz.func275,Tryz.ntmps275;go_wp2;go_loopw [7,8] (λl i wr=>∃(k K:Nat) (r:List Nat),k<=m+1/\i=.int .i64 k/\l=.int .u64 K/\K<=1/\Hid (AddRel w wr L p r (m+1) k K)) (λ_ i _=>m+1-(intOf i).toNat)
  case atStart=>exact⟨0,0,List.replicate (m+1) 0,Nat.zero_le _,rfl,rfl,by omega,⟨by simp,Cc _,Blk.new _ _ _,by simp[val],(Ext.refl _).alloc _⟩⟩
  case round=>
   obtain⟨k,K,r,C,rfl,rfl,u,T⟩:=hrel;by_cases Q:k<m+1
   .have xa:decide ((k:Int)<(m:Int)+1)=true:=Zhz
    exact Zau
   .obtain rfl:k=m+1:=by omega
    have xa:decide (((m+1:Nat):Int)<(m:Int)+1)=false:=by simp
    have g:=Ae (T.out.close (by rw[V.out];omega) (by rw[X.out];omega) q.out P.out)
    have v:Hid (Words wr (.slice (some ⟨w.heap.size,0,none⟩) (m+1) (m+1)) r):=by
     exact ZhH
    go_wp2_with (go_at_call 288;refine(EW _ _ _ v.out).mono ?_;rintro e N ⟨M,rfl,a,S⟩);go_ret;refine⟨M,rfl,?_,T.out.2.2.2.2.trans S⟩;rw[AU T.out.2.1,g.out]at a;exact a
 .have o:n<=n:=by omega
  have xb:m<=n:=by omega
  have H:¬n<m:=by omega
  have z:=λW=>Cj (n+1) ZbK .i64 .i64 W;simp only[Int.natCast_add,Int.natCast_one]at z;go_enter Tryz.func275,Tryz.ntmps275;go_wp2;go_loopw [7,8] (λl i wr=>∃(k K:Nat) (r:List Nat),k<=n+1/\i=.int .i64 k/\l=.int .u64 K/\K<=1/\Hid (AddRel w wr L p r (n+1) k K)) (λ_ i _=>n+1-(intOf i).toNat)
  case atStart=>exact⟨0,0,List.replicate (n+1) 0,Nat.zero_le _,rfl,rfl,by omega,⟨by simp,Cc _,Blk.new _ _ _,by simp[val],(Ext.refl _).alloc _⟩⟩
  case round=>
   obtain⟨k,K,r,C,rfl,rfl,u,T⟩:=hrel;by_cases Q:k<n+1
   .have xa:decide ((k:Int)<(n:Int)+1)=true:=Zhz
    exact Zau
   .obtain rfl:k=n+1:=by omega
    have xa:decide (((n+1:Nat):Int)<(n:Int)+1)=false:=by simp
    have g:=Ae (T.out.close (by rw[V.out];omega) (by rw[X.out];omega) q.out P.out)
    have v:Hid (Words wr (.slice (some ⟨w.heap.size,0,none⟩) (n+1) (n+1)) r):=by
     have:=Cn (c:=n+1) T.out.2.2.1 T.out.2.1 Zcr ZbK;exact ZfM
    go_wp2_with (go_at_call 288;refine(EW _ _ _ v.out).mono ?_;rintro e N ⟨M,rfl,a,S⟩);go_ret;refine⟨M,rfl,?_,T.out.2.2.2.2.trans S⟩;rw[AU T.out.2.1,g.out]at a;exact a
end Go.Proofs.YtcikkglcoeedlaaGreat
