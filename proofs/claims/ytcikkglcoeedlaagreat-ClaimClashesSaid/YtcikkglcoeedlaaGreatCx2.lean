/- Part 2 of the proof of claimClashes_holds. No condition. -/
import Derived.Test.YtcikkglcoeedlaaGreatCx1
set_option linter.unusedSimpArgs false
set_option linter.unusedVariables false
set_option maxRecDepth 100000
set_option maxHeartbeats 800000
namespace Go.Proofs.YtcikkglcoeedlaaGreat
open Go.RowKit
variable{n b:Nat}{w h:World}
theorem EJ(v:Value)(l:List Nat)(w:World)(h:Words w v l) :
  Calls Tryz.prog 288 #[v] w λe O=>∃R,e=.returned R/\Words O R (Du l)/\Ext w O:=by
 obtain⟨A,c,rfl,G,s,C⟩:=h.open_;have H:=Ae h;have F:=Ae h.small;clear h;have N:=Ae C;clear C;obtain⟨n,K⟩:∃n,n=l.length:=⟨_,rfl⟩;rw[<-K]at G ⊢;have X:=Ae K;clear K;go_enter Tryz.func288,Tryz.ntmps288;go_wp2;go_loop [3] (λt=>∃k:Nat,k<=n/\t=.int .i64 k/\Hid (Du l=Du (l.take k))) (λt=>(intOf t).toNat)
 case atStart=>exact Zhc
 case round=>
  exact Zao
theorem JU(neg:Bool)(v:Value)(l:List Nat)(w:World)(h:Words w v l) :
  Calls Tryz.prog 239 #[.bool neg,v] w λe O=>Jw (Ir neg (val l)) w e O:=by
 have b:=Ae h.small;have H:=Ae h;clear h;go_enter Tryz.func239,Tryz.ntmps239;go_wp2_with fail;refine(EJ _ _ _ (H.out.ext ((Ext.refl _).alloc _))).mono ?_;rintro e a ⟨R,rfl,E,X⟩;rw[AW b.out]at E;obtain⟨A,c,rfl,G,s,C⟩:=E.open_;replace C:=Ae C;obtain⟨F,L⟩:=X.cells;by_cases g:(Ao (val l)).length=0
 .have I:=Ae (Bi.1 g)
  generalize u:(Ao (val l)).length=n at *;subst g;replace u:=Ae u;have W:Hid (Ao (val l)=[]):=by rw[I.out];exact Br
  rw[W.out]at E;replace E:=Ae E
  cases neg with
  |false=>
   exact Zat
  |true=>
   exact Zat
 .have I:=Ae (λe=>g (Bi.2 e))
  have B:decide ((0:Int)<((Ao (val l)).length:Int))=true:=ZgC
  have K:0<(Ao (val l)).length:=by omega
  replace E:=Ae E;generalize u:(Ao (val l)).length=n at *;replace u:=Ae u
  cases neg with
  |false=>
   go_wp2;refine bodyPost_ret (v:=.agg #[.bool false,.slice A n c]) Zdk rfl ⟨_,_,_,_,rfl,⟨?_,?_⟩,?_⟩
   .rw [RO I.out]
   .exact Zau
   .exact Zhf
  |true=>
   go_wp2;refine bodyPost_ret (v:=.agg #[.bool true,.slice A n c]) Zdk rfl ⟨_,_,_,_,rfl,⟨?_,?_⟩,?_⟩
   .rw [RO I.out]
   .exact Zau
   .exact Zhf
theorem Zy(v:Value)(l:List Nat)(i:Nat)(w:World)(h:Words w v l) :
  Calls Tryz.prog 309 #[v,.int .i64 i] w λe O=>e=.returned (.int .u64 (l.getD i 0:Nat))/\w=O:=by
 obtain⟨A,c,rfl,G,s,C⟩:=h.open_;have u:=AK h.small i;by_cases K:i<l.length
 .obtain ⟨b, o, rfl, E, F⟩:=C Zbx
  replace F:=F i K;clear C h;generalize l.getD i 0=x at *;generalize l.length=n at *;unfold BB at u;have W:decide ((i:Int)<n)=true:=by simpa using K
  go_enter Tryz.func309,Tryz.ntmps309;go_wp2;go_ret;exact⟨rfl,rfl⟩
 .have g:Hid (l.getD i 0=0):=by simp [show l.length<=i by omega, Hid]
  clear C h u;generalize l.length=n at *;have W:decide ((i:Int)<n)=false:=ZgC
  go_enter Tryz.func309,Tryz.ntmps309;go_wp2;go_ret;exact⟨by rw[g.out];rfl,rfl⟩
theorem GE(v:Value)(l:List Nat)(i x:Nat)(w:World)(h:Words w v l)(C:l.getD i 0=x) :
  Calls Tryz.prog 309 #[v,.int .i64 i] w λe O=>e=.returned (.int .u64 (x:Nat))/\w=O:=by
 subst C;exact Zy v l i w h
theorem Hf(m:Nat)(w:World)(s:m<18446744073709551616) :
  Calls Tryz.prog 240 #[.int .u64 m] w λe O=>∃R,e=.returned R/\Words O R (Ao m)/\Ext w O:=by
 have u:Words (w.alloc (.cells (wv [m%BB,m/BB]) 335)) (.slice (some ⟨w.heap.size,0,none⟩) 2 2) [m%BB,m/BB]:=
  Ck (l:=[m%BB,m/BB]) (c:=2) (Blk.new _ _ _) (λx C=>by
   simp at C;rcases C with rfl | rfl
   .exact Nat.mod_lt _ Cp
   .exact Nat.div_lt_of_lt_mul Zcr) ZbK Zbx
 have o:Hid (val [m%BB,m/BB]=m):=by
  show m%BB+BB*(m/BB+BB*0)=m;exact ZgI
 have d:Hid ((w.alloc (.cells (wv [m%BB,m/BB]) 335))=w.alloc (.cells #[.int .u32 ((m:Int)%4294967296),.int .u32 ((m:Int)/4294967296)] 335)):=by
  simp[wv,Bn,Hid]
 have Y:=Ae u;have l:=Ae u.small;rw[d.out]at Y;clear u;go_enter Tryz.func240,Tryz.ntmps240;go_wp2_with fail;refine(EJ _ _ _ Y.out).mono ?_;rintro e O ⟨R,rfl,G,X⟩;go_wp2;go_ret;refine⟨R,rfl,?_,((Ext.refl _).alloc _).trans X⟩;rw[AW l.out,o.out]at G;exact G
def AddRel(w wr:World)(O u r:List Nat)(n k L:Nat):Prop:=
 r.length=n/\Bt r/\Blk wr w.heap.size 335 (wv r)/\val (r.take k)+BB^k*L=val (O.take k)+val (u.take k)/\Ext w wr
theorem AddRel.step{O R r:List Nat}{n k L x y:Nat}(A:AddRel w h O R r n k L)(E:k<n)(F:O.getD k 0=x)(N:R.getD k 0=y)(S:x<4294967296)(W:y<4294967296)(G:L<=1){u z:Int}(M:u=((x+L+y)%BB:Nat))(K:z=((x+L+y)/BB:Nat)) :
  ∃(X Q:Nat) (c:List Nat),X<=n/\Value.int .i64 ((k:Int)+1)=.int .i64 X/\Value.int .u64 z=.int .u64 Q/\Q<=1/\Hid (AddRel w (h.setCell ⟨w.heap.size,k,none⟩ (.int .u32 u)) O R c n X Q):=by
 obtain⟨B,C,I,V,m⟩:=A;obtain⟨d,v⟩:=Yx Zbx F N (by rw[Bn];exact S) (by rw[Bn];exact W) G V;refine⟨k+1,(x+L+y)/BB,r.set k ((x+L+y)%BB),E,by simp,by rw[K],v,by simpa using B,CN C k (Nat.mod_lt _ Cp),?_,d,?_⟩
 .rw [M,<-HJ]
  exact I.set k _
 .exact Below.setCell m (Nat.le_refl _) _
theorem AddRel.close{O k r:List Nat}(u:AddRel w h O k r n n b)(C:O.length<n)(s:k.length<n)(hA:Bt O)(p:Bt k):val r=val O+val k:=by
 obtain⟨A,B,I,V,m⟩:=u;rw[List.take_of_length_le (show O.length<=n by omega),List.take_of_length_le (show k.length<=n by omega),List.take_of_length_le (show r.length<=n by omega)]at V;have E:val O<BB^(n-1):=Nat.lt_of_lt_of_le (Dr hA) (Nat.pow_le_pow_right Cp Zbx);have X:val k<BB^(n-1):=Nat.lt_of_lt_of_le (Dr p) (Nat.pow_le_pow_right Cp Zbx);have e:BB^n=BB*BB^(n-1):=by rw[<-Nat.pow_succ'];exact ZfJ
 have v:2*BB^(n-1)<=BB*BB^(n-1):=Nat.mul_le_mul_right _ ZbA;rcases Nat.eq_zero_or_pos b with g | g
 .subst g;omega
 .have:BB^n*1<=BB^n*b:=Nat.mul_le_mul_left _ g
  omega
theorem Wh(Y z:Value)(K M:List Nat)(w:World)(t:Words w Y K)(E:Words w z M)(h:K.length<=4398046511104)(s:M.length<=4398046511104) :
  Calls Tryz.prog 275 #[Y,z] w λe O=>∃R,e=.returned R/\Words O R (Ao (val K+val M))/\Ext w O:=by
 obtain⟨A,c,rfl,G,H,C⟩:=t.open_;obtain⟨B,d,rfl,F,xc,N⟩:=E.open_;have Ha:=Ae t;have Hb:=Ae E;clear t E C N;have q:=Ae Ha.out.small;have P:=Ae Hb.out.small;have xe:=q;generalize S:K.length=n at *;generalize o:M.length=m at *;replace S:=Ae S;replace o:=Ae o;clear xe;rcases Nat.lt_or_ge n m with xd | xd
 .have p:n<=m:=by omega
  have xb:m<=m:=by omega
  have T:=λW=>Ce (m+1) Zbx .i64 .i64 W;simp only[Int.natCast_add,Int.natCast_one]at T;go_enter Tryz.func275,Tryz.ntmps275;go_wp2;go_loopw [7,8] (λl i wr=>∃(k L:Nat) (r:List Nat),k<=m+1/\i=.int .i64 k/\l=.int .u64 L/\L<=1/\Hid (AddRel w wr K M r (m+1) k L)) (λ_ i _=>m+1-(intOf i).toNat)
  case atStart=>exact⟨0,0,List.replicate (m+1) 0,Nat.zero_le _,rfl,rfl,by omega,⟨by simp,BW _,Blk.new _ _ _,by simp[val],(Ext.refl _).alloc _⟩⟩
  case round=>
   obtain⟨k,L,r,u,rfl,rfl,v,J⟩:=hrel;by_cases Q:k<m+1
   .have xa:decide ((k:Int)<(m:Int)+1)=true:=ZgC
    exact Zav
   .obtain rfl:k=m+1:=by omega
    have xa:decide (((m+1:Nat):Int)<(m:Int)+1)=false:=by simp
    have b:=Ae (J.out.close (by rw[S.out];omega) (by rw[o.out];omega) q.out P.out)
    have V:Hid (Words wr (.slice (some ⟨w.heap.size,0,none⟩) (m+1) (m+1)) r):=by
     exact ZgF
    go_wp2_with (go_at_call 288;refine(EJ _ _ _ V.out).mono ?_;rintro e O ⟨R,rfl,Z,X⟩);go_ret;refine⟨R,rfl,?_,J.out.2.2.2.2.trans X⟩;rw[AW J.out.2.1,b.out]at Z;exact Z
 .have p:n<=n:=by omega
  have xb:m<=n:=by omega
  have U:¬n<m:=by omega
  have T:=λW=>Ce (n+1) Zbx .i64 .i64 W;simp only[Int.natCast_add,Int.natCast_one]at T;go_enter Tryz.func275,Tryz.ntmps275;go_wp2;go_loopw [7,8] (λl i wr=>∃(k L:Nat) (r:List Nat),k<=n+1/\i=.int .i64 k/\l=.int .u64 L/\L<=1/\Hid (AddRel w wr K M r (n+1) k L)) (λ_ i _=>n+1-(intOf i).toNat)
  case atStart=>exact⟨0,0,List.replicate (n+1) 0,Nat.zero_le _,rfl,rfl,by omega,⟨by simp,BW _,Blk.new _ _ _,by simp[val],(Ext.refl _).alloc _⟩⟩
  case round=>
   obtain⟨k,L,r,u,rfl,rfl,v,J⟩:=hrel;by_cases Q:k<n+1
   .have xa:decide ((k:Int)<(n:Int)+1)=true:=ZgC
    exact Zav
   .obtain rfl:k=n+1:=by omega
    have xa:decide (((n+1:Nat):Int)<(n:Int)+1)=false:=by simp
    have b:=Ae (J.out.close (by rw[S.out];omega) (by rw[o.out];omega) q.out P.out)
    have V:Hid (Words wr (.slice (some ⟨w.heap.size,0,none⟩) (n+1) (n+1)) r):=by
     have:=Ck (c:=n+1) J.out.2.2.1 J.out.2.1 Zcb Zbx;exact ZeX
    go_wp2_with (go_at_call 288;refine(EJ _ _ _ V.out).mono ?_;rintro e O ⟨R,rfl,Z,X⟩);go_ret;refine⟨R,rfl,?_,J.out.2.2.2.2.trans X⟩;rw[AW J.out.2.1,b.out]at Z;exact Z
end Go.Proofs.YtcikkglcoeedlaaGreat
