/- Part 22 of the proof of claimAnswers_holds. No condition. -/
import Derived.Test.YtcikkglcoeedlaaGreatCa19
import Derived.Test.YtcikkglcoeedlaaGreatCa20
import Derived.Test.YtcikkglcoeedlaaGreatCa21
set_option linter.unusedSimpArgs false
set_option linter.unusedVariables false
set_option maxRecDepth 100000
namespace Go.Proofs.YtcikkglcoeedlaaGreat
variable{vc:AS}{h:AV}{vv:AV->List Ow->Prop}{vj:Act}{vH:Array Edge}{vr:Array TypeId}{q uh:Bool}{vp ua:Code}{r vt ul:D}{vm:Exit->AS->Prop}{vK:Func}{vb:FuncId}{s:GS}{i:Int}{o:IntKind}{vf uw:List (Nat×AV)}{u:List AV}{l f vo:List Nat}{vJ:List Operand}{H vA:List Ow}{vR:List PanicEntry}{vi ud:List Tm}{ub:List Value}{n b T:Nat}{vd vw:Nat->Int}{vg:Nat->Value}{uj:Op}{va:Oper}{x y vN:Operand}{vz:Operand->AV}{vs:Ow}{P:Program}{vD:Prop}{vL uR:Rat}{vG:String}{e uB:Type}{t U:TypeId}{z v:Value}{un:e->Prop}
section
open Go.RowKit
theorem A2t(z:Int)(g:-128<=z)(A:z<=127):Abs Tryz.prog 222 [ex (.int .i8 z)] (ex (.int .i64 (z.natAbs:Nat))):=by
 by_cases C:z<0
 .refine Ab Tryz.func222 λB=>?_
  rw[Tryz.ntmps222]
  repeat (first | refine CU rfl rfl ?_;refine⟨_,Gf (ao rfl) (Aa rfl) (Aa rfl) ZbK ZbK,?_⟩ | refine CU rfl rfl ?_;refine⟨_,QD (ao rfl) ZbK ZbK,?_⟩ | apply Ao | apply AWp.region | (refine CU rfl rfl ?_;first | (apply Fk;refine⟨_,AZ (ao rfl),?_⟩) | (apply Fw;refine⟨_,Dm (ao rfl),?_⟩) | (apply HD;refine⟨_,FH rfl (ao rfl) (ao rfl) ZbS,?_⟩)) | apply AWl.nil | apply Yn | apply Ci | apply Gi | (apply Jb;refine Ct ?_))
  exact ZiQ
 .refine Ab Tryz.func222 λB=>?_
  rw[Tryz.ntmps222]
  repeat (first | refine CU rfl rfl ?_;refine⟨_,Gf (ao rfl) (Aa rfl) (Aa rfl) ZbK ZbK,?_⟩ | apply Ao | apply AWp.region | (refine CU rfl rfl ?_;first | (apply Fk;refine⟨_,AZ (ao rfl),?_⟩) | (apply Fw;refine⟨_,Dm (ao rfl),?_⟩) | (apply HD;refine⟨_,GY rfl (ao rfl) (ao rfl) ZbS,?_⟩)) | apply AWl.nil | apply Yn | apply HG | apply Ci | (apply Jb;refine Cf ?_))
  exact ZiQ
def We(A:Int)(r:Nat->Int):Nat->Int
 |0=>A
 |j+1=>We A r j-((r (j+1)).natAbs:Nat)%(We A r j+1)
theorem WR{C:Int}(r:Nat->Int)(h:0<=C):∀j,0<=We C r j/\We C r j<=C
 |0=>⟨h,Int.le_refl _⟩
 |j+1=>by
  have q:=WR r h j;have A:=Int.emod_nonneg ((r (j+1)).natAbs:Int) (show We C r j+1≠0 by omega);have B:=Int.emod_lt_of_pos ((r (j+1)).natAbs:Int) (show 0<We C r j+1 by omega);simp only[We];omega
def Th(A:Int)(r:Nat->Int)(n:Nat):Nat->Int:=λj=>if j<n then((r (j+1)).natAbs:Nat)%(We A r j+1)else 0
theorem YV(r:Nat->Int)(h:0<=i)(n:Nat):In8 (Th i r n) 0 i:=λj _=>by
 unfold Th;have q:=WR r h j;split
 .have A:=Int.emod_nonneg ((r (j+1)).natAbs:Int) (show We i r j+1≠0 by omega)
  have B:=Int.emod_lt_of_pos ((r (j+1)).natAbs:Int) (show 0<We i r j+1 by omega);omega
 .omega
theorem A23(A:Int)(r:Nat->Int)(k:Nat):Pe (Th A r k) k (((r (k+1)).natAbs:Nat)%(We A r k+1))=Th A r (k+1):=by
 funext j;simp only[Pe,Th];rcases Nat.lt_trichotomy j k with h | h | h
 .rw [if_neg ZbK,if_pos h,if_pos ZbK]
 .subst h;simp
 .rw [if_neg ZbK,if_neg ZbK,if_neg ZbK]
def ZH(A:Int)(n:Nat)(r:Nat->Int):List Tm:=ZD ((Int.tmod (r 0) 4:Int):Rat) [⟨1,Th A r n⟩]
def Lb(A:Int)(n:Nat)(X:List (Nat->Int)):List Tm:=X.foldl (λa r=>Ii a (ZH A n r)) []
def YP(X:List (Nat->Int))(n:Nat)(r:Int)(terms:Nat):List Tm:=Lb r (min n 4) (X.take (min X.length terms))
theorem A4E(z:Int):-3<=Int.tmod z 4/\Int.tmod z 4<=3:=by
 rcases Int.le_total 0 z with h | h
 .rw [Int.tmod_eq_emod_of_nonneg h];omega
 .have:Int.tmod z 4=-((-z)%4):=by
   rw[<-Int.tmod_eq_emod_of_nonneg ZbK,Int.neg_tmod,Int.neg_neg]
  omega
theorem A3m(h:PB vi n b i)(f:RSz vL T):PB (ZD vL vi) n (T+b) i:=by
 unfold ZD;split
 .exact PB.nil
 .rename_i I
  have:=A4X (t:=⟨vL,λ_=>0⟩) (d0:=0) h I f λA _=>⟨Int.le_refl _,Int.le_refl _⟩;rwa [Int.zero_add]at this
theorem A1z(h:In8 vd 0 i):PB [⟨1,vd⟩] 1 1 i:=A0H (show(1:Rat)≠0 by decide) (rsz_one) h
where rsz_one:RSz (1:Rat) 1:=Ig (x:=1) ZbK ZbK
theorem Yl(z:Int):RSz ((Int.tmod z 4:Int):Rat) 1:=by
 have:=A4E z;exact Ig ZbK ZbK
theorem YB(n:Nat)(r:Nat->Int)(h:0<=i):PB (ZH i n r) 1 2 i:=A3m (A1z (YV r h n)) (Yl _)
theorem MO{C:Int}{n:Nat}(h:0<=C):∀(X:List (Nat->Int)) (A:List Tm) (k K:Nat),PB A k K C->PB (X.foldl (λa r=>Ii a (ZH C n r)) A) (k+X.length) (K+X.length*3) C
 |[],A,k,K,h=>h
 |r::X,A,k,K,M=>by
  have B:=(M.add (YB n r h)).mono (Nat.le_refl _) (Nat.le_refl _) (Int.max_le.2 ⟨Int.le_refl _,Int.le_refl _⟩);have:=MO (n:=n) h X _ _ _ B;exact this.mono Zhz Zhz (Int.le_refl _)
theorem A1J(X:List (Nat->Int))(n:Nat)(P:Nat)(h:0<=i):PB (YP X n i P) P (P*3) i:=by
 have:=MO (n:=min n 4) h (X.take (min X.length P)) [] 0 0 PB.nil;have K:(X.take (min X.length P)).length<=P:=by rw[List.length_take];omega
 exact this.mono ZbK ZbK (Int.le_refl _)
theorem PG(X:List (Nat->Int))(n:Nat){terms k:Nat}(h:0<=i)(C:k<=terms):PB (Lb i n (X.take k)) terms (terms*3) i:=by
 have:=MO (n:=n) h (X.take k) [] 0 0 PB.nil;have K:(X.take k).length<=terms:=by rw[List.length_take];omega
 exact this.mono ZbK ZbK (Int.le_refl _)
theorem A21(f:e->(Nat->Int)->e)(b:e){X:List (Nat->Int)}(h:n<X.length):(X.take (n+1)).foldl f b=f ((X.take n).foldl f b) (FN X n):=by
 have A:X.take (n+1)=X.take n++[FN X n]:=by
  rw[List.take_add_one,List.getElem?_eq_getElem h,FN,List.getD_eq_getElem?_getD,List.getElem?_eq_getElem h];rfl
 rw[A,List.foldl_append];rfl
def A0u(X:List (Nat->Int)):Prop:=∀r∈X,∀j,j<5->-128<=r j/\r j<=127
theorem A0x(T:Nat)(X:List (Nat->Int))(n terms:Nat)(I:Int)(L:A0u X)(B:n<=8)(J:terms<=1000)(g:0<=I)(Z:I<=1000):Abs Tryz.prog 126 [AJ [r5D T X],ex (.int .i64 (n:Nat)),ex (.int .i64 I),ex (.int .i64 (terms:Nat))] (BQ (YP X n I terms)):=by
 refine Ab Tryz.func126 λE=>?_;rw[Tryz.ntmps126]
 repeat (first | apply Ao | apply AWp.region | (apply A2X;refine Bx ?_) | (apply A4Q;refine TT (Aa rfl) (Aa rfl) rfl rfl rfl rfl rfl ?_) | (refine CU rfl rfl ?_;(apply Fw;refine⟨_,Dm (ao rfl),?_⟩)) | apply AWl.nil | apply Yn | apply AWp.block)
 refine Az (λP d=>∃k,k<=min X.length terms/\P=min X.length terms-k/\d=⟨[(1,.d (ex (.int .i64 (n:Nat)))),(2,.d (ex (.int .i64 I))),(3,.d (ex (.int .i64 (terms:Nat)))),(4,.ptr 0 0),(9,.d (BQ (Lb I (min n 4) (X.take k)))),(10,.d (ex (.int .i64 (k:Nat))))],[.var 212 ([r5D T X].map .d)]⟩) ?le ⟨0,by omega,rfl,rfl⟩ ?round
 case le=>exact Ad (by repeat (first | exact FrLe.nil | refine Yd ?_ | refine Yp ?_ | refine FrLe.cons rfl (KF rfl (D.le.refl _)) ?_)) ZdD
 case round=>
  rintro P _ ⟨k,C,rfl,rfl⟩;by_cases Q:k<min X.length terms
  .have q:k<X.length:=by omega
   have z:k<terms:=by omega
   repeat (first | apply Ao | apply AWp.region | (apply VP;refine Al ?_) | (apply QJ;refine Sf ?_) | (refine CU rfl rfl ?_;first | (apply Fk;refine⟨_,AZ (ao rfl),?_⟩) | (apply Fw;refine⟨_,Dm (ao rfl),?_⟩) | (apply OI;refine⟨_,GW (ao rfl) rfl (Aa rfl) rfl rfl,?_⟩) | (apply GZ;refine⟨_,GX (ao rfl) (Aa rfl) rfl (Aa rfl) rfl,?_⟩) | (apply XR;refine⟨_,Bi rfl (Aa rfl),?_⟩) | (apply HD;refine⟨_,FH rfl (ao rfl) (ao rfl) ZbS,?_⟩) | (apply Ms;refine⟨_,GC (ao rfl) (ao rfl),?_⟩) | (apply VO;(refine Nn (Aa rfl) (Aa rfl) rfl rfl ?_;(repeat ((first | refine⟨_,AA (ao rfl),?_⟩ | refine⟨_,Po rfl,?_⟩);refine⟨_,rfl,?_⟩));refine⟨_,rfl,?_⟩))) | (refine No rfl rfl rfl rfl rfl ?_;first | (apply Fk;refine⟨_,AZ (ao rfl),?_⟩) | (apply HD;refine⟨_,FH rfl (ao rfl) (ao rfl) ZbS,?_⟩)) | apply AWl.nil | apply Yn | apply AWp.block | apply HG | (apply Jb;refine Ct ?_))
   refine Az (λP d=>∃i,i<=min n 4/\P=min n 4-i/\d=⟨[(1,.d (ex (.int .i64 (n:Nat)))),(2,.d (ex (.int .i64 I))),(3,.d (ex (.int .i64 (terms:Nat)))),(4,.ptr 0 0),(9,.d (BQ (Lb I (min n 4) (X.take k)))),(10,.d (ex (.int .i64 (k:Nat)))),(11,.ptr 1 0),(12,.d (ex (.int .i64 (We I (FN X k) i)))),(13,.d (ex (.int .i64 (i:Nat))))],[.var 212 ([r5D T X].map .d),.var 112 ((Co (Th I (FN X k) i)).map .d)]⟩) ?lei ⟨0,by omega,rfl,rfl⟩ ?roundi
   case lei=>exact Ad (by repeat (first | exact FrLe.nil | refine Yd ?_ | refine Yp ?_)) ZdD
   case roundi=>
    rintro P _ ⟨i,M,rfl,rfl⟩;by_cases y:i<min n 4
    .have K:=WR (FN X k) g i
     have b:=L _ (UP q) (i+1) ZbK;have f:Pe (Th I (FN X k) i) i (((FN X k (i+1)).natAbs:Nat)%(We I (FN X k) i+1)) i=((FN X k (i+1)).natAbs:Nat)%(We I (FN X k) i+1):=if_pos rfl;have R:=Int.emod_nonneg ((FN X k (i+1)).natAbs:Int) (show We I (FN X k) i+1≠0 by omega);have N:=Int.emod_lt_of_pos ((FN X k (i+1)).natAbs:Int) (show 0<We I (FN X k) i+1 by omega)
     repeat (first | refine CU rfl rfl ?_;refine⟨_,Ml (ao rfl) (ao rfl) ZbK,?_⟩ | refine CU rfl rfl ?_;refine⟨_,IE (ao rfl) (Aa rfl) rfl (A0M (show i+1<5 by omega)),?_⟩ | apply Ao | apply AWp.region | (apply QJ;refine Kc (ao rfl) (ao rfl) rfl (Aa rfl) Zcx (SetAt.mon ZbU) rfl ?_) | (refine CU rfl rfl ?_;first | (apply Fk;refine⟨_,AZ (ao rfl),?_⟩) | (apply Fw;refine⟨_,Dm (ao rfl),?_⟩) | (apply OI;first | refine⟨_,GW (ao rfl) rfl (Aa rfl) rfl rfl,?_⟩ | refine⟨_,Kz (ao rfl) rfl (Aa rfl) rfl (Id ZbU),?_⟩) | (apply GZ;refine⟨_,GX (ao rfl) (Aa rfl) rfl (Aa rfl) rfl,?_⟩) | (apply Mt;first | refine⟨_,Ck rfl (ao rfl) (Aa rfl) (Aa rfl) rfl ZbU,?_⟩ | refine⟨_,Lp (ao rfl) (ao rfl) (Aa rfl) (Aa rfl) ZbU,?_⟩ | refine⟨_,JX (ao rfl) (ao rfl) (Aa rfl) (Aa rfl) ZbU,?_⟩) | (apply XS;first | refine⟨_,Kt (ao rfl) (ao rfl) ZbK,?_⟩ | refine⟨_,Nj (ao rfl) (ao rfl) ZbK ZbK,?_⟩) | (apply A2O;refine⟨_,Nb (ao rfl) (ao rfl) ZbK ZbK,?_⟩) | (apply A2P;refine⟨_,QA (ao rfl) (ao rfl) ZbK ZbK,?_⟩) | (apply HD;refine⟨_,FH rfl (ao rfl) (ao rfl) ZbS,?_⟩) | (apply Ms;refine⟨_,GC (ao rfl) (ao rfl),?_⟩) | (apply VN;refine⟨_,EX (ao rfl) (A2t (FN X k (i+1)) b.1 b.2) ZbX,?_⟩)) | (refine No rfl rfl rfl rfl rfl ?_;first | (apply Fk;refine⟨_,AZ (ao rfl),?_⟩) | (apply HD;refine⟨_,FH rfl (ao rfl) (ao rfl) ZbS,?_⟩)) | apply AWl.nil | apply Yn | apply AWp.block | apply HG | apply Bv | (apply Jb;refine Ct ?_))
     refine Am (min n 4-(i+1)) ZbK ⟨i+1,by omega,rfl,rfl⟩ ?_;exact Ad (by repeat (first | exact FrLe.nil | refine Yd ?_ | refine Yp ?_ | refine FrLe.cons rfl (AVle.int (by rw[f];rfl)) ?_)) (by repeat (first | exact HpLe.nil | refine HpLe.cons (OwLe.varD (by rw[A23])) ?_ | apply Yv))
    .obtain rfl:i=min n 4:=by omega
     have H:=UP q;have S:=L _ H 0 ZbK;have V:=A4E (FN X k 0);have Y:-3<=Int.tmod (X.getD k default 0) 4/\Int.tmod (X.getD k default 0) 4<=3:=V;have F:=PG X (min n 4) (terms:=terms) g (Nat.le_of_lt z);have O:=F.len;have J:=YB (min n 4) (FN X k) g;have l:=J.len;have A:=A1z (YV (FN X k) g (min n 4));have G:(FN X k 0).tmod 4=IntKind.i64.wrap ((FN X k 0).tmod 4):=(IntWalk.i64_in _ ZbK).symm;have x:Lb I (min n 4) (X.take (k+1))=Ii (Lb I (min n 4) (X.take k)) (ZH I (min n 4) (FN X k)):=A21 (λa r=>Ii a (ZH I (min n 4) r)) [] q;rcases(show n<=4\/4<n by omega)with W | W
     all_goals
      repeat (first | apply Ao | apply AWp.region | (refine CU rfl rfl ?_;first | (apply Fk;refine⟨_,AZ (ao rfl),?_⟩) | (apply HD;first | refine⟨_,FH rfl (ao rfl) (ao rfl) ZbS,?_⟩ | refine⟨_,GY rfl (ao rfl) (ao rfl) ZbS,?_⟩) | (apply Ms;first | refine⟨_,GC (ao rfl) (ao rfl),?_⟩ | refine⟨_,IC (ao rfl) (ao rfl),?_⟩)) | refine QO rfl rfl rfl rfl rfl ?_ | (refine No rfl rfl rfl rfl rfl ?_;first | (apply Fk;refine⟨_,AZ (ao rfl),?_⟩) | (apply HD;refine⟨_,GY rfl (ao rfl) (ao rfl) ZbS,?_⟩)) | apply AWl.nil | apply Yn | apply BZ | apply Bz | apply BE | apply BP | (apply Jb;refine Cf ?_))
      refine Dy 16 ?_
      repeat (first | refine⟨_,rfl,?_⟩ | (apply TO;(refine Xq (AZ (ah rfl)) ?_)) | (apply TP;first | (refine Xq (Nf (ah rfl) rfl (Aa rfl) rfl rfl) ?_) | (refine Xq (GW (ah rfl) rfl (Aa rfl) rfl rfl) ?_) | (refine Xq (Gr (ah rfl) (Aa rfl) rfl rfl) ?_)) | (apply Ja;(refine Xq (GX (ah rfl) (Aa rfl) rfl (Aa rfl) rfl) ?_)) | (apply IZ;first | (refine Xq (Ck rfl (ah rfl) (Aa rfl) (Aa rfl) rfl ZbU) ?_) | (refine Xq (TK (ah rfl) (ah rfl) (Aa rfl) (Aa rfl) ZbN ZbN rfl) ?_)) | (apply XU;(refine Xq (OC (ah rfl) (ah rfl) ZbN) ?_)) | (apply Nl;(refine Xq (CI (ah rfl) (Aa rfl) (Aa rfl) rfl rfl rfl rfl rfl) ?_)) | (apply TQ;(refine Xq (Gf (ah rfl) (Aa rfl) (Aa rfl) ZbK ZbK) ?_)) | (apply QI;(refine Hq rfl ?_;refine AT (Aa rfl) rfl rfl rfl ?_;(repeat ((first | refine⟨_,AA (ah rfl),?_⟩ | refine⟨_,Po rfl,?_⟩);refine⟨_,rfl,?_⟩));refine⟨_,rfl,?_⟩;refine⟨_,rfl,?_⟩)) | (apply QH;first | (refine Xq (EX (ah rfl) (Ft ((FN X k 0).tmod 4) ZbK ZbK) ZbX) ?_) | (refine Xq (EX (ah rfl) (Ft 1 ZbK ZbK) ZbX) ?_) | (refine Xq (EX (ah rfl) (Xm ((Int.tmod (FN X k 0) 4:Int):Rat) [⟨1,Th I (FN X k) (min n 4)⟩] 1 1 (Yl _) A.sz (A.ex.mono (Int.le_refl _) ZbK) ZbV ZbK) ZbX) ?_) | (refine Xq (EX (ah rfl) (A2z (Lb I (min n 4) (X.take k)) (ZH I (min n 4) (FN X k)) (terms*3) 2 F.sz J.sz ZbK ZbK) ZbX) ?_)))
      repeat (first | apply AWp.region | (refine CU rfl rfl ?_;first | (apply Fk;refine⟨_,AZ (ao rfl),?_⟩) | (apply Fw;refine⟨_,Dm (ao rfl),?_⟩) | (apply XS;refine⟨_,Kt (ao rfl) (ao rfl) ZbK,?_⟩)) | apply AWl.nil | apply Yn | apply Bv)
      refine Am (min X.length terms-(k+1)) ZbK ⟨k+1,by omega,rfl,rfl⟩ ?_;exact Ad (by repeat (first | exact FrLe.nil | refine Yd ?_ | refine Yp ?_ | refine FrLe.cons rfl (AVle.le (Kb x.symm)) ?_)) ZdD
  .obtain rfl:k=min X.length terms:=by omega
   rcases(show X.length<=terms\/terms<X.length by omega)with J | J
   all_goals
    repeat (first | apply Ao | apply AWp.region | (refine CU rfl rfl ?_;first | (apply Fk;refine⟨_,AZ (ao rfl),?_⟩) | (apply Fw;refine⟨_,Dm (ao rfl),?_⟩) | (apply OI;refine⟨_,GW (ao rfl) rfl (Aa rfl) rfl rfl,?_⟩) | (apply GZ;refine⟨_,GX (ao rfl) (Aa rfl) rfl (Aa rfl) rfl,?_⟩) | (apply XR;refine⟨_,Bi rfl (Aa rfl),?_⟩) | (apply HD;first | refine⟨_,FH rfl (ao rfl) (ao rfl) ZbS,?_⟩ | refine⟨_,GY rfl (ao rfl) (ao rfl) ZbS,?_⟩) | (apply Ms;first | refine⟨_,GC (ao rfl) (ao rfl),?_⟩ | refine⟨_,IC (ao rfl) (ao rfl),?_⟩)) | refine QO rfl rfl rfl rfl rfl ?_ | (refine No rfl rfl rfl rfl rfl ?_;first | (apply Fk;refine⟨_,AZ (ao rfl),?_⟩) | (apply HD;refine⟨_,GY rfl (ao rfl) (ao rfl) ZbS,?_⟩)) | apply AWl.nil | apply Yn | apply BZ | apply Ci | apply Bz | apply BE | apply BP | (apply Jb;refine Cf ?_))
    exact Yf
theorem A5m{z:Int}(g:-100000<=z)(A:z<=100000):(Aq z.natAbs).length<=1:=Iw Zed
def gdD(t:Bool)(x:D):D:=⟨λs v=>(t=true->x.rel s v)/\(t=false->v=undef),λh I=>⟨λJ=>x.st (h.1 J) I,h.2⟩⟩
theorem A1Z(h:q=true):D.le r (gdD q r):=λ_ _ A=>⟨λ_=>A,(λe=>by rw[h]at e;cases e)⟩
theorem A3M(h:q=false):D.le (ex undef) (gdD q r):=λ_ _ A=>⟨(λe=>by rw[h]at e;cases e),λ_=>A⟩
def Ovr(t:Bool)(Y:List (Nat×AV))(l:List (Nat×AV)):Prop:=∀p∈l,∃x,p.2=.d x/\BV Y p.1=some (.d (gdD t x))
theorem Ovr.nil{t:Bool}:Ovr t vf []:=λp G=>by cases G
theorem Ovr.cons{t:Bool}{Y l:List (Nat×AV)}{u:Nat}{x:D}(h:BV Y u=some (.d (gdD t x)))(f:Ovr t Y l):Ovr t Y ((u,.d x)::l):=λp G=>by
 rcases List.mem_cons.1 G with rfl | G
 .exact ⟨x,rfl,h⟩
 .exact f p G
theorem UK(A:BV (vf++uw) n=some h):(∃p∈vf,p.1=n/\p.2=h)\/BV uw n=some h:=by
 induction vf with
 |nil=>exact .inr A
 |cons p vf B=>
  rw[List.cons_append,CD]at A;split at A
  .rename_i e
   exact .inl ⟨p,List.mem_cons_self,e,Option.some.inj A⟩
  .rcases B A with⟨q,w,e⟩ | A
   .exact .inl ⟨q,List.mem_cons_of_mem _ w,e⟩
   .exact .inr A
theorem Ovr.sti{s0:An}(h:Ovr q vf uw)(J:q=true)(hst:StI s0 n ⟨vf,H⟩ vj s vg):StI s0 n ⟨uw++vf,H⟩ vj s vg:=⟨hst.le,hst.ok,λu U L=>by
 rcases UK L with⟨p,A,c,v⟩ | L
 .obtain ⟨x,B,W⟩:=h p A
  rw[<-v,B];rw[c]at W;exact(hst.fr u _ W).1 J
 .exact hst.fr u U L,hst.sz,hst.df,hst.hp,hst.sep,hst.own⟩
theorem Ovr.back(h:Ovr q vf uw)(J:q=true):AS.le ⟨(n,.d r)::(uw++vf),H⟩ ⟨(n,.d (gdD q r))::vf,H⟩:=λF A a w ⟨s,W,G,E⟩=>⟨s,W,G,⟨E.le,E.ok,λu U L=>by
 rw[CD]at L;split at L
 .rename_i e
  cases L;have B:=E.fr u (.d r) (by show BV ((n,.d r)::(uw++vf)) u=_;rw[CD,if_pos e]);exact A1Z J _ _ B
 .rename_i e
  have T:∀uw:List (Nat×AV),BV (uw++vf) u≠none:=λuw=>by
   induction uw with
   |nil=>rw[List.nil_append,L];exact λh=>by cases h
   |cons p uw I=>
    rw[List.cons_append,CD];split
    .exact λh=>by cases h
    .exact I
  cases K:BV (uw++vf) u with
  |none=>exact absurd K (T uw)
  |some b=>
   have B:=E.fr u b (by show BV ((n,.d r)::(uw++vf)) u=_;rw[CD,if_neg e,K]);rcases UK K with⟨p,C,c,v⟩ | K
   .obtain ⟨x,M,N⟩:=h p C
    rw[c,L]at N;cases N;rw[<-v,M]at B;exact A1Z J _ _ B
   .rw [L]at K
    cases K;exact B,E.sz,E.df,E.hp,E.sep,E.own⟩⟩
section
variable {P:Program} {s0:An} {n:Nat} {ops:Array Oper} {Q:Exit->AS->Prop} {rest:List Oper} {fr:List (Nat×AV)} {hp:List Ow} {ty:TypeId} {ps:String} {af:Array Edge}
theorem Gg{d:Nat}{A t g:Bool}(l:List (Nat×AV))(I:g=(t==A))(e:Ovr g fr l)(O:(ops[b]?).bind (·.dst)=some T)(B:BV fr T=some (.d (ex (.bool t))))(F:Nat.blt T n=true)(f:BI uj=true)(Z:Nat.blt d n=true)(C:g=true->Quiet P hp ⟨some d,uj,ty,ps,af,some (b,A)⟩ (AS.arg ⟨l++fr,hp⟩) (.d r))(h:AWl P s0 n ops Q rest ⟨(d,.d (gdD g r))::fr,hp⟩):AWl P s0 n ops Q (⟨some d,uj,ty,ps,af,some (b,A)⟩::rest) ⟨fr,hp⟩:=by
 cases i:g with
 |true=>
  have J:t=A:=by rw[i]at I;exact(beq_iff_eq.1 I.symm)
  subst J;exact VV (o:=⟨some d,uj,ty,ps,af,some (b,t)⟩) rfl O B (λs W a x K m=>Pn (o:=⟨some d,uj,ty,ps,af,some (b,t)⟩) (n:=n) (σ:=⟨l++fr,hp⟩) f (show TU (some d) n=true from Z) (C i) (AW (e.back i) h) s W a (e.sti i x) K m) (by simpa[Nat.blt_eq]using F)
 |false=>
  have z:isB (.bool t) A=false:=by
   rw[i]at I;exact I.symm
  refine QO O B z F Z (AW ?_ h)
  exact λs0 n a w ⟨s,W,E,x⟩=>⟨s,W,E,⟨x.le,x.ok,λu U L=>by
   rw[CD]at L;split at L
   .rename_i G
    cases L;exact A3M i _ _ (x.fr u (.d (ex undef)) (by show BV ((d,.d (ex undef))::fr) u=_;rw[CD,if_pos G]))
   .rename_i G
    exact x.fr u U (by show BV ((d,.d (ex undef))::fr) u=_;rw[CD,if_neg G];exact L),x.sz,x.df,x.hp,x.sep,x.own⟩⟩
theorem HX{d:Nat}(w:q=true->Quiet P hp ⟨some d,uj,ty,ps,af,some (b,true)⟩ (AS.arg ⟨[]++fr,hp⟩) (.d r))(h:AWl P s0 n ops Q rest ⟨(d,.d (gdD q r))::fr,hp⟩)(O:(ops[b]?).bind (·.dst)=some T:=by exact rfl)(K:BV fr T=some (.d (ex (.bool q))):=by exact rfl)(A:Nat.blt T n=true:=by exact rfl)(f:BI uj=true:=by exact rfl)(Z:Nat.blt d n=true:=by exact rfl):AWl P s0 n ops Q (⟨some d,uj,ty,ps,af,some (b,true)⟩::rest) ⟨fr,hp⟩:=Gg _ ZdQ Ovr.nil O K A f Z w h
theorem Ee{d:Nat}(U:Nat)(B:BV fr U=some (.d (gdD q vt)))(w:q=true->Quiet P hp ⟨some d,uj,ty,ps,af,some (b,true)⟩ (AS.arg ⟨[(U,.d vt)]++fr,hp⟩) (.d r))(h:AWl P s0 n ops Q rest ⟨(d,.d (gdD q r))::fr,hp⟩)(O:(ops[b]?).bind (·.dst)=some T:=by exact rfl)(K:BV fr T=some (.d (ex (.bool q))):=by exact rfl)(A:Nat.blt T n=true:=by exact rfl)(f:BI uj=true:=by exact rfl)(Z:Nat.blt d n=true:=by exact rfl):AWl P s0 n ops Q (⟨some d,uj,ty,ps,af,some (b,true)⟩::rest) ⟨fr,hp⟩:=Gg _ ZdQ (Ovr.cons B Ovr.nil) O K A f Z w h
theorem Wu2{d:Nat}(U:Nat)(B:BV fr U=some (.d (gdD q vt)))(c:Nat)(C:BV fr c=some (.d (gdD q ul)))(w:q=true->Quiet P hp ⟨some d,uj,ty,ps,af,some (b,true)⟩ (AS.arg ⟨[(U,.d vt),(c,.d ul)]++fr,hp⟩) (.d r))(h:AWl P s0 n ops Q rest ⟨(d,.d (gdD q r))::fr,hp⟩)(O:(ops[b]?).bind (·.dst)=some T:=by exact rfl)(K:BV fr T=some (.d (ex (.bool q))):=by exact rfl)(A:Nat.blt T n=true:=by exact rfl)(f:BI uj=true:=by exact rfl)(Z:Nat.blt d n=true:=by exact rfl):AWl P s0 n ops Q (⟨some d,uj,ty,ps,af,some (b,true)⟩::rest) ⟨fr,hp⟩:=Gg _ ZdQ (Ovr.cons B (Ovr.cons C Ovr.nil)) O K A f Z w h
theorem Wh{d:Nat}(w:(!q)=true->Quiet P hp ⟨some d,uj,ty,ps,af,some (b,false)⟩ (AS.arg ⟨[]++fr,hp⟩) (.d r))(h:AWl P s0 n ops Q rest ⟨(d,.d (gdD (!q) r))::fr,hp⟩)(O:(ops[b]?).bind (·.dst)=some T:=by exact rfl)(K:BV fr T=some (.d (ex (.bool q))):=by exact rfl)(A:Nat.blt T n=true:=by exact rfl)(f:BI uj=true:=by exact rfl)(Z:Nat.blt d n=true:=by exact rfl):AWl P s0 n ops Q (⟨some d,uj,ty,ps,af,some (b,false)⟩::rest) ⟨fr,hp⟩:=Gg _ ZdQ Ovr.nil O K A f Z w h
theorem Ze{d:Nat}(U:Nat)(B:BV fr U=some (.d (gdD (!q) vt)))(w:(!q)=true->Quiet P hp ⟨some d,uj,ty,ps,af,some (b,false)⟩ (AS.arg ⟨[(U,.d vt)]++fr,hp⟩) (.d r))(h:AWl P s0 n ops Q rest ⟨(d,.d (gdD (!q) r))::fr,hp⟩)(O:(ops[b]?).bind (·.dst)=some T:=by exact rfl)(K:BV fr T=some (.d (ex (.bool q))):=by exact rfl)(A:Nat.blt T n=true:=by exact rfl)(f:BI uj=true:=by exact rfl)(Z:Nat.blt d n=true:=by exact rfl):AWl P s0 n ops Q (⟨some d,uj,ty,ps,af,some (b,false)⟩::rest) ⟨fr,hp⟩:=Gg _ ZdQ (Ovr.cons B Ovr.nil) O K A f Z w h
theorem Wv2{d:Nat}(U:Nat)(B:BV fr U=some (.d (gdD (!q) vt)))(c:Nat)(C:BV fr c=some (.d (gdD (!q) ul)))(w:(!q)=true->Quiet P hp ⟨some d,uj,ty,ps,af,some (b,false)⟩ (AS.arg ⟨[(U,.d vt),(c,.d ul)]++fr,hp⟩) (.d r))(h:AWl P s0 n ops Q rest ⟨(d,.d (gdD (!q) r))::fr,hp⟩)(O:(ops[b]?).bind (·.dst)=some T:=by exact rfl)(K:BV fr T=some (.d (ex (.bool q))):=by exact rfl)(A:Nat.blt T n=true:=by exact rfl)(f:BI uj=true:=by exact rfl)(Z:Nat.blt d n=true:=by exact rfl):AWl P s0 n ops Q (⟨some d,uj,ty,ps,af,some (b,false)⟩::rest) ⟨fr,hp⟩:=Gg _ ZdQ (Ovr.cons B (Ovr.cons C Ovr.nil)) O K A f Z w h
end
section
variable {P:Program} {hp:List Ow} {arg:Operand->AV} {dd:Option Tmp} {ty:TypeId} {ps:String} {af:Array Edge} {gd:Option (Nat×Bool)}
theorem Mo(E:arg y=.d (gdD q (ex (.bool uh))))(O:arg vN=.d (ex (.bool false)))(I:arg x=.d (ex (.bool q))):Quiet P hp ⟨dd,.pick x y vN,ty,ps,af,gd⟩ arg (.d (ex (.bool (q&&uh)))):=by
 cases q with
 |false=>exact NO (o:=⟨dd,.pick x y vN,ty,ps,af,gd⟩) rfl O I
 |true=>
  refine⟨λbase s W C H l Z h=>?_⟩;have A:=h x ZcE;have B:=h y ZcE;rw[I]at A;rw[E]at B;have c:C x=.bool true:=A;have v:C y=.bool uh:=B.1 rfl;exact BO (v:=C y) (by simp[execOp,c,asBool]) ⟨GS.Le.refl s,by rw[v];rfl⟩
theorem Mn(E:arg vN=.d (gdD (!q) (ex (.bool uh))))(O:arg y=.d (ex (.bool true)))(I:arg x=.d (ex (.bool q))):Quiet P hp ⟨dd,.pick x y vN,ty,ps,af,gd⟩ arg (.d (ex (.bool (q||uh)))):=by
 cases q with
 |true=>exact NN (o:=⟨dd,.pick x y vN,ty,ps,af,gd⟩) rfl O I
 |false=>
  refine⟨λbase s W C H l Z h=>?_⟩;have A:=h x ZcE;have B:=h vN ZcE;rw[I]at A;rw[E]at B;have c:C x=.bool false:=A;have v:C vN=.bool uh:=B.1 rfl;exact BO (v:=C vN) (by simp[execOp,c,asBool]) ⟨GS.Le.refl s,by rw[v];rfl⟩
theorem Cu(E:arg y=.d (gdD q (ex (.bool uh))):=by first | exact ao rfl | exact ah rfl)(O:arg vN=.d (ex (.bool false)):=by first | exact ao rfl | exact ah rfl)(I:arg x=.d (ex (.bool q)):=by first | exact ao rfl | exact ah rfl):Quiet P hp ⟨dd,.pick x y vN,ty,ps,af,gd⟩ arg (.d (ex (.bool (q&&uh)))):=Mo E O I
theorem Mc(E:arg vN=.d (gdD (!q) (ex (.bool uh))):=by first | exact ao rfl | exact ah rfl)(O:arg y=.d (ex (.bool true)):=by first | exact ao rfl | exact ah rfl)(I:arg x=.d (ex (.bool q)):=by first | exact ao rfl | exact ah rfl):Quiet P hp ⟨dd,.pick x y vN,ty,ps,af,gd⟩ arg (.d (ex (.bool (q||uh)))):=Mn E O I
end
structure CutS{ι:Type}(f:ι->AS)(p:ι->Prop)(Q:Exit->AS->Prop)(e:Exit)(σ:AS):Prop where
 h:(e=.normal/\∃i,p i/\AS.le σ (f i))\/(e≠.normal/\Q e σ)
theorem CutS.normal{f:e->AS}{Q:Exit->AS->Prop}{σ:AS}(i:e)(G:un i)(K:AS.le σ (f i)):CutS f un Q .normal σ:=⟨.inl ⟨rfl,i,G,K⟩⟩
theorem CutS.ret{f:e->AS}{p:e->Prop}{Q:Exit->AS->Prop}(h:Q .ret vc):CutS f p Q .ret vc:=⟨.inr ⟨by simp,h⟩⟩
theorem A34{s0:An}(f:e->AS)(p:e->Prop)(run:AWp P s0 n vp (CutS f p vm) vc)(k:∀i,p i->AWp P s0 n ua vm (f i)):AWp P s0 n vp (AThen (AWp P s0 n ua vm) vm) vc:=⟨λa w E=>wp_mono (run.run a w E) λA Q N ⟨X,⟨B⟩,C⟩=>by
 rcases B with⟨rfl,i,M,K⟩ | ⟨hne,hQ⟩
 .exact ⟨X,⟨HF K (k i M)⟩,C⟩
 .refine ⟨X,?_,C⟩
  cases A with
  |normal=>exact absurd rfl hne
  |ret=>exact Gi hQ
  |exit i=>exact Bz hQ
  |_=>exact⟨hQ⟩⟩
theorem AWp.cutB{s0:An}(id:Nat)(f:e->AS)(p:e->Prop)(run:AWp P s0 n (.block id vp) (CutS f p vm) vc)(k:∀i,p i->AWp P s0 n ua vm (f i)):AWp P s0 n (.seq (.block id vp) ua) vm vc:=Ao (A34 f p run k)
def CellsLe(G:List Ow)(m:Nat):List AV->List AV->Prop
 |[],[]=>True
 |x::l,y::r=>AVle G m x y/\CellsLe G m l r
 |_,_=>False
theorem CellsLe.nil{hp:List Ow}{m:Nat}:CellsLe hp m [] []:=trivial
theorem CellsLe.cons{m:Nat}{x y:AV}{l r:List AV}(h:AVle H m x y)(f:CellsLe H m l r):CellsLe H m (x::l) (y::r):=⟨h,f⟩
theorem CellsLe.get{G:List Ow}{m:Nat}:∀{l r:List AV},CellsLe G m l r->l.length=r.length/\∀(k:Nat) y,r[k]? = some y->∃x,l[k]? = some x/\AVle G m x y
 |[],[],_=>⟨rfl,λk y h=>by cases h⟩
 |[],_::_,h=>h.elim
 |_::_,[],h=>h.elim
 |x::l,y::r,⟨A,B⟩=>by
  obtain⟨L,V⟩:=CellsLe.get B;refine⟨by simp[L],λk z C=>?_⟩
  cases k with
  |zero=>cases C;exact⟨x,rfl,A⟩
  |succ k=>exact V k z ZcF
theorem OwLe.cells{m T:Nat}{c f:List AV}(h:CellsLe H m c f):OwLe H m (.var T c) (.var T f):=OwLe.var h.get.1 h.get.2
def DsLe:List D->List D->Prop
 |[],[]=>True
 |x::l,y::r=>D.le x y/\DsLe l r
 |_,_=>False
theorem DsLe.nil:DsLe [] []:=trivial
theorem DsLe.cons{x y:D}{l r:List D}(h:D.le x y)(f:DsLe l r):DsLe (x::l) (y::r):=⟨h,f⟩
theorem DsLe.get:∀{l r:List D},DsLe l r->l.length=r.length/\∀k,k<l.length->D.le (Dd l k) (Dd r k)
 |[],[],_=>⟨rfl,λk h=>absurd h ZbV⟩
 |[],_::_,h=>h.elim
 |_::_,[],h=>h.elim
 |x::l,y::r,⟨A,B⟩=>by
  obtain⟨L,V⟩:=DsLe.get B;refine⟨by simp[L],λk C=>?_⟩
  cases k with
  |zero=>exact A
  |succ k=>exact V k ZcF
theorem CH {l r : List D} (h : DsLe l r) : D.le (AJ l) (AJ r) := fun s v ⟨a, A, B, L⟩ => ⟨a, A, by rw [B, h.get.1], fun k C => by
 rw[<-h.get.1]at C;obtain⟨u,V,m,z⟩:=L k C;exact⟨u,V,m,h.get.2 k C s u z⟩⟩
theorem A02 (a b : Nat → Int) (w : World) : (do eqGuard .eql 36 x y (.agg (c8 a)) (.agg (c8 b)); binOp .eql 36 (.agg (c8 a)) (.agg (c8 b)) : Sem Value).run Tryz.prog w = .ok (.bool (JK a b)) w := by
 exact ZfT
theorem ZR (a b : Nat → Int) (w : World) : (do eqGuard .neq 36 x y (.agg (c8 a)) (.agg (c8 b)); binOp .neq 36 (.agg (c8 a)) (.agg (c8 b)) : Sem Value).run Tryz.prog w = .ok (.bool (!JK a b)) w := by
 exact ZfT
section
variable {hp:List Ow} {arg:Operand->AV} {dd:Option Tmp} {ty:TypeId} {ps:String} {af:Array Edge} {gd:Option (Nat×Bool)}
theorem A2G{a b:Nat->Int}(E:arg x=.d (AJ (Co a)))(O:arg y=.d (AJ (Co b))):Quiet Tryz.prog hp ⟨dd,.binOp .eql 36 x y t,ty,ps,af,gd⟩ arg (.d (ex (.bool (JK a b)))):=
 Gd rfl E O (λ_ _ h=>CC h) (λ_ _ h=>CC h) λw=>A02 a b w
theorem Mp(E:arg x=.d (AJ (Co vd)))(O:arg y=.d (AJ (Co vw))):Quiet Tryz.prog hp ⟨dd,.binOp .neq 36 x y t,ty,ps,af,gd⟩ arg (.d (ex (.bool (!JK vd vw)))):=
 Gd rfl E O (λ_ _ h=>CC h) (λ_ _ h=>CC h) λw=>ZR vd vw w
end
def EqTo(A B:List (Nat->Int))(k:Nat):Prop:=∀j,j<k->JK (A.getD j default) (B.getD j default)=true
def GA(A B:List (Nat->Int)):Prop:=A.length=B.length/\EqTo A B A.length
noncomputable instance (A B:List (Nat->Int)):Decidable (GA A B):=Classical.propDecidable _
theorem EqTo.succ{A B:List (Nat->Int)}(h:EqTo A B n)(e:JK (A.getD n default) (B.getD n default)=true):EqTo A B (n+1):=λj C=>by
 rcases Nat.lt_or_ge j n with a | a
 .exact h j a
 .obtain rfl:j=n:=by omega
  exact e
theorem Xr(A B:List (Nat->Int))(s:A.length<=1000000)(F:B.length<=1000000):Abs Tryz.prog 18 [DW A,DW B] (ex (.bool (decide (GA A B)))):=by
 refine Ab Tryz.func18 λE=>?_;rw[Tryz.ntmps18];by_cases K:A.length=B.length
 .refine Go ?_
  refine Az (λP d=>∃k,k<=A.length/\P=A.length-k/\EqTo A B k/\d=⟨[(0,.d (DW A)),(1,.d (DW B)),(5,.d (ex (.int .i64 (k:Nat))))],[]⟩) ?le ⟨0,by omega,rfl,λ_ h=>absurd h ZbK,rfl⟩ ?round
  case le=>exact Ad ZcC Zch
  case round=>
   rintro P _ ⟨k,C,rfl,X,rfl⟩;by_cases Q:k<A.length
   .have I:k<B.length:=by omega
    by_cases g:JK (A.getD k default) (B.getD k default)=true
    .refine Go ?_
     refine Dy 9 ?_;refine Cw ?_;refine⟨_,HStep.q rfl (Mp rfl rfl),?_⟩;refine Cw ?_;rw[g];refine Go ?_;refine Am (A.length-(k+1)) ZbK ⟨k+1,by omega,rfl,X.succ g,rfl⟩ ?_;exact Ad ZcC Zch
    .exact ZaM
   .exact ZaN
 .exact ZaO
theorem SG(A B:List (Nat->Int))(s:A.length<=1000000)(F:B.length<=1000000):Abs Tryz.prog 68 [DW A,DW B] (ex (.bool (decide (GA A B)))):=by
 refine Ab Tryz.func68 λE=>?_;rw[Tryz.ntmps68];by_cases K:A.length=B.length
 .refine Go ?_
  refine Az (λP d=>∃k,k<=A.length/\P=A.length-k/\EqTo A B k/\d=⟨[(0,.d (DW A)),(1,.d (DW B)),(12,.d (ex (.int .i64 (A.length:Nat)))),(13,.d (ex (.int .i64 (k:Nat))))],[]⟩) ?le ⟨0,by omega,rfl,λ_ h=>absurd h ZbK,rfl⟩ ?round
  case le=>exact ZiJ
  case round=>
   rintro P _ ⟨k,C,rfl,X,rfl⟩;by_cases Q:k<A.length
   .have I:k<B.length:=by omega
    by_cases g:JK (A.getD k default) (B.getD k default)=true
    .refine Go ?_
     refine Dy 9 ?_;refine Cw ?_;refine⟨_,HStep.q rfl (Mp rfl rfl),?_⟩;refine Cw ?_;rw[g];refine Go ?_;refine Am (A.length-(k+1)) ZbK ⟨k+1,by omega,rfl,X.succ g,rfl⟩ ?_;exact ZiJ
    .exact ZaM
   .exact ZaN
 .exact ZaO
structure RQ where
 b:Bool
 l:List Nat
 b':Bool
 l':List Nat
instance:Inhabited RQ:=⟨⟨false,[],false,[]⟩⟩
def Bo(n:Nat):List Nat:=if n<128 then[n]else(n%128+128)::Bo (n/128)
termination_by n
decreasing_by omega
def u64(z:Int):Nat:=(z%18446744073709551616).toNat
def UC(z:Int):Nat:=if z<0 then 2*(-(z+1)).toNat+1 else 2*z.toNat
def Bc(z:Int):List Nat:=Bo (UC z)
def Cm(w:Nat):List Nat:=[w/16777216%256,w/65536%256,w/256%256,w%256]
def GF(b:Bool)(l:List Nat):List Nat:=Bo (2*l.length+(if b=true then 1 else 0))++l.flatMap Cm
def CA(q:RQ):List Nat:=GF q.b q.l++GF q.b' q.l'
def La{F:Type}(e:F->List Nat)(f:Nat->F):List Nat:=(List.range 8).flatMap λi=>e (f i)
def Ex(t:RTm):List Nat:=(GF t.b t.l++GF t.b' t.l')++La (λz=>Bo (u64 z)) t.m
def Bn{F:Type}(e:F->List Nat)(l:List F):List Nat:=Bo l.length++l.flatMap e
abbrev Cr:List RTm->List Nat:=Bn Ex
abbrev AN:List (List RTm)->List Nat:=Bn Cr
abbrev BC:List (List (List RTm))->List Nat:=Bn AN
abbrev FL:(Nat->Int)->List Nat:=La Bc
abbrev Cg:List (Nat->Int)->List Nat:=Bn FL
abbrev FJ:List RQ->List Nat:=Bn CA
def FX(a:RQ×RQ):List Nat:=CA a.1++CA a.2
abbrev GU:(Nat->RQ×RQ)->List Nat:=La FX
abbrev EL:List (Nat->RQ×RQ)->List Nat:=Bn GU
abbrev Om:(Nat->RQ)->List Nat:=La CA
def Jk(s:RQ×List RTm):List Nat:=CA s.1++Cr s.2
structure Cor where
 n:Int
 e:List (List RTm)
 f:List (List RTm)
structure Clm where
 kind:Int
 p:List RTm
 n:Int
 d:Int
 r:Int
 o:List (Nat->Int)
 l:List (List RTm)
 s:List Int
 b:List (Nat->RQ×RQ)
structure Rsl where
 l:Nat->Int
 q:List RQ
 r:Nat->List RQ
structure Crt where
 n:Int
 cof:List (List RTm)
 g:List (List RTm)
 o:List (Nat->Int)
 c:List (List (List RTm))
 q:List (List (List RTm))
 s:List (List (List RTm))
 r:Rsl
 a:List (RQ×RQ)
 sq:List (RQ×List RTm)
 x:List (Nat->RQ)
 b:List (Nat->RQ×RQ)
structure Fct where
 k:Cor
 c:Clm
 e:Crt
def FP(k:Cor):List Nat:=(Bc k.n++AN k.e)++AN k.f
def IS(c:Clm):List Nat:=Bc c.kind++Cr c.p++Bc c.n++Bc c.d++Bc c.r++Cg c.o++AN c.l++Bn Bc c.s++EL c.b
def Jr(r:Rsl):List Nat:=FL r.l++FJ r.q++La FJ r.r
def Li(e:Crt):List Nat:=Bc e.n++AN e.cof++AN e.g++Cg e.o++BC e.c++BC e.q++BC e.s++Jr e.r++Bn FX e.a++Bn Jk e.sq++Bn Om e.x++EL e.b
def FO(f:Fct):List Nat:=FP f.k++IS f.c++Li f.e
abbrev Rd(F:Type):=List Nat->Option (F×List Nat)
def BY{F:Type}(a:F):Rd F:=λb=>some (a,b)
def Rd.bind{F k:Type}(p:Rd F)(f:F->Rd k):Rd k:=λb=>match p b with
 |none=>none
 |some (a,r)=>f a r
def NZ:Nat->Nat->Nat->Rd Nat
 |0,_,_=>λ_=>none
 |k+1,s,n=>λb=>match b with
  |[]=>none
  |c::r=>if 18446744073709551616<=(c%128)*s then none else if c<128 then some (n+(c%128)*s,r)else NZ k (s*128) (n+(c%128)*s) r
def NY:Rd Nat:=NZ 10 1 0
def RT{F:Type}(p:Rd F)(e:F->List Nat)(D:F->Prop):Prop:=∀x,D x->∀b,p (e x++b)=some (x,b)
theorem YN:∀(k s n x:Nat),0<s->x*s<18446744073709551616->x<128^k->0<k->∀b,NZ k s n (Bo x++b)=some (n+x*s,b)
 |0,_,_,_,_,_,_,h,_=>absurd h (Nat.lt_irrefl 0)
 |k+1,s,n,x,f,E,C,_,b=>by
  rw[Bo];split
  .rename_i h
   rw[List.cons_append,List.nil_append,NZ]
   dsimp only
   rw[Nat.mod_eq_of_lt h,if_neg ZbK,if_pos h]
  .rename_i h
   rw[List.cons_append,NZ];have c:(x%128+128)%128=x%128:=by omega
   have v:x%128*s<=x*s:=Nat.mul_le_mul (Nat.mod_le _ _) (Nat.le_refl _)
   dsimp only
   rw[c,if_neg ZbK,if_neg ZbK]
   have y:x/128<128^k:=by
    rw[Nat.div_lt_iff_lt_mul ZbK];rwa [Nat.pow_succ]at C
   have g:0<k:=by
    rcases Nat.eq_zero_or_pos k with e | e
    .subst e
     rw[Nat.pow_zero]at y;omega
    .exact e
   have A:x/128*(s*128)=(x/128*128)*s:=by rw[Nat.mul_comm s 128,Nat.mul_assoc]
   have W:x*s=x%128*s+x/128*128*s:=by
    exact Zhw
   rw[YN k (s*128) _ (x/128) ZbK (by rw[A];omega) y g b,A];congr 2;omega
theorem A3C:RT NY Bo λn=>n<18446744073709551616:=λx E b=>by
 have:=YN 10 1 0 x ZbK ZbK (Nat.lt_trans E ZbN) ZbK b;rw[NY,this,Nat.zero_add,Nat.mul_one]
theorem AR{F k:Type}{p:Rd F}{e:F->List Nat}{D:F->Prop}(h:RT p e D)(f:F->Rd k){x:F}(E:D x)(b:List Nat):p.bind f (e x++b)=f x b:=by
 rw[Rd.bind,h x E b]
def BU{F:Type}(p:Rd F):Nat->Rd (List F)
 |0=>BY []
 |n+1=>p.bind λx=>(BU p n).bind λl=>BY (x::l)
theorem Ol{F:Type}{p:Rd F}{e:F->List Nat}{D:F->Prop}(h:RT p e D):∀(l:List F),(∀x∈l,D x)->∀b,BU p l.length (l.flatMap e++b)=some (l,b)
 |[],_,b=>rfl
 |x::l,K,b=>by
  rw[List.length_cons,BU,List.flatMap_cons,List.append_assoc,AR h _ (K x List.mem_cons_self),Rd.bind,Ol h l (λy O=>K y (List.mem_cons_of_mem _ O))];rfl
def JF(c:List Nat->Bool):Rd Unit:=λb=>if c b=true then some ((),b)else none
theorem CO{F:Type}{e:F->List Nat}:∀{l:List F},(∀x∈l,0<(e x).length)->l.length<=(l.flatMap e).length
 |[],_=>Nat.zero_le _
 |x::l,h=>by
  have A:=CO (e:=e) (l:=l) λy O=>h y (List.mem_cons_of_mem _ O);have B:=h x List.mem_cons_self;rw[List.flatMap_cons,List.length_append,List.length_cons];omega
structure Lg where
 nat:Rd Nat
 ex:Nat->Bool
structure LgOk(G:Lg):Prop where
 nat:RT G.nat Bo λn=>n<9223372036854775808
 ex:∀n,n<=65535->G.ex n=true
section
variable (G:Lg)
def Fu{F:Type}(p:Rd F):Rd (List F):=G.nat.bind λn=>(JF λb=>decide (n<=b.length)).bind λ_=>BU p n
def Jm:Rd Nat:=λb=>match b with
 |A::M::t::B::r=>some (A*16777216+M*65536+t*256+B,r)
 |_=>none
def PN:Rd (Bool×List Nat):=G.nat.bind λn=>(JF λb=>decide (n/2<=b.length/4)).bind λ_=>(BU Jm (n/2)).bind λl=>BY (decide (n%2=1),l)
def FM:Rd RQ:=(PN G).bind λa=>(PN G).bind λc=>BY ⟨a.1,a.2,c.1,c.2⟩
def KZ{F:Type}[Inhabited F](p:Rd F):Rd (Nat->F):=(BU p 8).bind λl=>BY λi=>l.getD i default
def PX:Rd Int:=G.nat.bind λn b=>if G.ex n=true then some ((n:Int),b)else none
def Im:Rd RTm:=(FM G).bind λq=>(KZ (PX G)).bind λm=>BY ⟨q.b,q.l,q.b',q.l',m⟩
def HH:Rd Int:=G.nat.bind λn=>BY (if n%2=0 then((n/2:Nat):Int)else -((n/2:Nat):Int)-1)
abbrev GJ:Rd (List RTm):=Fu G (Im G)
abbrev Ei:Rd (List (List RTm)):=Fu G (GJ G)
abbrev MB:Rd (List (List (List RTm))):=Fu G (Ei G)
abbrev QX:Rd (Nat->Int):=KZ (HH G)
abbrev MJ:Rd (List (Nat->Int)):=Fu G (QX G)
abbrev Sy:Rd (List RQ):=Fu G (FM G)
def Tb:Rd (RQ×RQ):=(FM G).bind λa=>(FM G).bind λb=>BY (a,b)
abbrev To:Rd (Nat->RQ×RQ):=KZ (Tb G)
abbrev MW:Rd (List (Nat->RQ×RQ)):=Fu G (To G)
abbrev ptP:Rd (Nat->RQ):=KZ (FM G)
def ZB:Rd (RQ×List RTm):=(FM G).bind λa=>(GJ G).bind λp=>BY (a,p)
def Vf:Rd Cor:=(HH G).bind λn=>(Ei G).bind λe=>(Ei G).bind λf=>BY ⟨n,e,f⟩
def Lk:Rd Clm:=(HH G).bind λkind=>(GJ G).bind λp=>(HH G).bind λn=>(HH G).bind λd=>(HH G).bind λr=>(MJ G).bind λo=>(Ei G).bind λl=>(Fu G (HH G)).bind λs=>(MW G).bind λb=>BY ⟨kind,p,n,d,r,o,l,s,b⟩
def Ul:Rd Rsl:=(QX G).bind λl=>(Sy G).bind λq=>(KZ (Sy G)).bind λr=>BY ⟨l,q,r⟩
def Jj:Rd Crt:=(HH G).bind λn=>(Ei G).bind λU=>(Ei G).bind λg=>(MJ G).bind λo=>(MB G).bind λc=>(MB G).bind λq=>(MB G).bind λs=>(Ul G).bind λr=>(Fu G (Tb G)).bind λa=>(Fu G (ZB G)).bind λA=>(Fu G (ptP G)).bind λx=>(MW G).bind λb=>BY ⟨n,U,g,o,c,q,s,r,a,A,x,b⟩
def PU:Rd Fct:=(Vf G).bind λk=>(Lk G).bind λc=>(Jj G).bind λe=>BY ⟨k,c,e⟩
end
def SmW(l:List Nat):Prop:=(∀w∈l,w<4294967296)/\l.length<4611686018427387904
structure QB(q:RQ):Prop where
 n:SmW q.l
 d:SmW q.l'
def Oct{F:Type}[Inhabited F](D:F->Prop)(f:Nat->F):Prop:=(∀i,i<8->D (f i))/\∀i,8<=i->f i=default
structure TB(t:RTm):Prop where
 n:SmW t.l
 d:SmW t.l'
 m:Oct (λz=>0<=z/\z<=65535) t.m
def LB{F:Type}(D:F->Prop)(l:List F):Prop:=(∀x∈l,D x)/\l.length<9223372036854775808
abbrev PoB:List RTm->Prop:=LB TB
abbrev PsB:List (List RTm)->Prop:=LB PoB
abbrev TaB:List (List (List RTm))->Prop:=LB PsB
def IB(z:Int):Prop:=-2305843009213693952<=z/\z<=2305843009213693952
abbrev OrB:List (Nat->Int)->Prop:=LB (Oct IB)
abbrev UnB:List RQ->Prop:=LB QB
def VB(a:RQ×RQ):Prop:=QB a.1/\QB a.2
abbrev BoB:List (Nat->RQ×RQ)->Prop:=LB (Oct VB)
def A6Y(s:RQ×List RTm):Prop:=QB s.1/\PoB s.2
structure CoB(k:Cor):Prop where
 n:IB k.n
 e:PsB k.e
 f:PsB k.f
structure ClB(c:Clm):Prop where
 kind:IB c.kind
 p:PoB c.p
 n:IB c.n
 d:IB c.d
 r:IB c.r
 o:OrB c.o
 l:PsB c.l
 s:LB IB c.s
 b:BoB c.b
structure RsB(r:Rsl):Prop where
 l:Oct IB r.l
 q:UnB r.q
 r:Oct UnB r.r
structure CrB(e:Crt):Prop where
 n:IB e.n
 cof:PsB e.cof
 g:PsB e.g
 o:OrB e.o
 c:TaB e.c
 q:TaB e.q
 s:TaB e.s
 r:RsB e.r
 a:LB VB e.a
 sq:LB A6Y e.sq
 x:LB (Oct QB) e.x
 b:BoB e.b
structure FB(f:Fct):Prop where
 k:CoB f.k
 c:ClB f.c
 e:CrB f.e
theorem Hp(n:Nat):0<(Bo n).length:=by
 rw[Bo];split<;>simp
section
variable {G:Lg} (hG:LgOk G)
include hG
theorem Gj{F:Type}{p:Rd F}{e:F->List Nat}{D:F->Prop}(h:RT p e D)(g:∀x,D x->0<(e x).length):RT (Fu G p) (Bn e) (LB D):=λl ⟨K,i⟩ b=>by
 rw[Fu,Bn,List.append_assoc,AR hG.nat _ i];have:=CO (e:=e) (l:=l) λx E=>g x (K x E);rw[Rd.bind,JF,if_pos (decide_eq_true ZdC)];exact Ol h l K b
theorem A1S(K:SmW l)(r:List Nat):PN G (GF q l++r)=some ((q,l),r):=by
 have W:RT Jm Cm λw=>w<4294967296:=λw W q=>by
  show some (w/16777216%256*16777216+w/65536%256*65536+w/256%256*256+w%256,q)=some (w,q);congr 2;omega
 have h:(l.flatMap Cm).length=4*l.length:=by
  clear K
  induction l with
  |nil=>rfl
  |cons w l A=>rw[List.flatMap_cons,List.length_append,A,List.length_cons];show 4+_=_;omega
 have B:2*l.length+(if q=true then 1 else 0)<9223372036854775808:=by
  have:=K.2;split<;>omega
 have L:(2*l.length+(if q=true then 1 else 0))/2=l.length:=by split<;>omega
 have V:decide ((2*l.length+(if q=true then 1 else 0))%2=1)=q:=by
  cases q
  .exact decide_eq_false ZbV
  .exact decide_eq_true Zcz
 rw[PN,GF,List.append_assoc,AR hG.nat _ B,L,V,Rd.bind,JF,if_pos (decide_eq_true (by rw[List.length_append,h];omega))]
 dsimp only
 rw[Rd.bind,Ol W l K.1 r];rfl
theorem ME:RT (FM G) CA QB:=λq w b=>by
 rw[FM,CA,List.append_assoc,Rd.bind,A1S hG w.n]
 dsimp only
 rw[Rd.bind,A1S hG w.d];rfl
omit hG in
theorem ML[Inhabited e]{p:Rd e}{A:e->List Nat}(h:RT p A un):RT (KZ p) (La A) (Oct un):=λf ⟨F,g⟩ b=>by
 have B:La A f=((List.range 8).map f).flatMap A:=by rw[List.flatMap_map];rfl
 have C:=Ol h ((List.range 8).map f) (λx E=>by
  obtain⟨i,M,rfl⟩:=List.mem_map.1 E;exact F i (List.mem_range.1 M)) b
 rw[List.length_map,List.length_range]at C;rw[KZ,B,Rd.bind,C]
 dsimp only
 rw[BY];congr 2;funext i;by_cases M:i<8
 .rw [List.getD_eq_getElem?_getD,List.getElem?_map,List.getElem?_range M];rfl
 .rw [g i ZbK,List.getD_eq_getElem?_getD,List.getElem?_eq_none Zhz];rfl
theorem A5u:RT (PX G) (λz=>Bo (u64 z)) λz=>0<=z/\z<=65535:=λz ⟨g,A⟩ b=>by
 have L:((u64 z:Nat):Int)=z:=by
  unfold u64;omega
 rw[PX,AR hG.nat _ (show u64 z<9223372036854775808 by omega),if_pos (hG.ex _ ZbK),L]
theorem A3g:RT (Im G) Ex TB:=λt J b=>by
 rw[Im,Ex,List.append_assoc];have A:GF t.b t.l++GF t.b' t.l'=CA ⟨t.b,t.l,t.b',t.l'⟩:=rfl;rw[A,AR (ME hG) _ (x:=⟨t.b,t.l,t.b',t.l'⟩) ⟨J.n,J.d⟩,AR (ML (A5u hG)) _ J.m];rfl
theorem IM:RT (HH G) Bc IB:=λz ⟨g,A⟩ b=>by
 rw[HH,Bc,AR hG.nat _ (show UC z<9223372036854775808 by unfold UC;split<;>omega),BY];congr 2;unfold UC;split<;>split<;>omega
end
theorem HT(h:0<l.length):0<(l++f).length:=by rw[List.length_append];omega
theorem Iv{F:Type}(e:F->List Nat)(l:List F):0<(Bn e l).length:=HT (Hp _)
theorem YT(b:Bool)(l:List Nat):0<(GF b l).length:=HT (Hp _)
theorem HL(q:RQ):0<(CA q).length:=HT (YT _ _)
theorem OS(t:RTm):0<(Ex t).length:=HT (HT (YT _ _))
theorem Kj(z:Int):0<(Bc z).length:=Hp _
theorem GQ{F:Type}{e:F->List Nat}(h:∀x,0<(e x).length)(f:Nat->F):0<(La e f).length:=by
 have c:La e f=e (f 0)++((List.range' 1 7).flatMap λi=>e (f i)):=by rw[La,List.range_eq_range'];rfl
 rw[c];exact HT (h _)
theorem MT(a:RQ×RQ):0<(FX a).length:=HT (HL _)
theorem Wu(s:RQ×List RTm):0<(Jk s).length:=HT (HL _)
section
variable {G:Lg} (hG:LgOk G)
include hG
theorem SN:RT (GJ G) Cr PoB:=Gj hG (A3g hG) λ_ _=>OS _
theorem Is:RT (Ei G) AN PsB:=Gj hG (SN hG) λ_ _=>Iv _ _
theorem OV:RT (MB G) BC TaB:=Gj hG (Is hG) λ_ _=>Iv _ _
theorem Uv:RT (MJ G) Cg OrB:=Gj hG (ML (IM hG)) λ_ _=>GQ Kj _
theorem A13:RT (Sy G) FJ UnB:=Gj hG (ME hG) λ_ _=>HL _
theorem A4I:RT (Tb G) FX VB:=λa h b=>by
 rw[Tb,FX,List.append_assoc,AR (ME hG) _ h.1,AR (ME hG) _ h.2];rfl
theorem Vm:RT (MW G) EL BoB:=Gj hG (ML (A4I hG)) λ_ _=>GQ MT _
theorem A6x:RT (ZB G) Jk A6Y:=λa h b=>by
 rw[ZB,Jk,List.append_assoc,AR (ME hG) _ h.1,AR (SN hG) _ h.2];rfl
theorem A5D:RT (Vf G) FP CoB:=λk h b=>by
 rw[Vf,FP,List.append_assoc,List.append_assoc,AR (IM hG) _ h.n,AR (Is hG) _ h.e,AR (Is hG) _ h.f];rfl
theorem A5G:RT (Lk G) IS ClB:=λc h b=>by
 rw[Lk,IS];simp only[List.append_assoc];rw[AR (IM hG) _ h.kind,AR (SN hG) _ h.p,AR (IM hG) _ h.n,AR (IM hG) _ h.d,AR (IM hG) _ h.r,AR (Uv hG) _ h.o,AR (Is hG) _ h.l,AR (Gj hG (IM hG) λ_ _=>Kj _) _ h.s,AR (Vm hG) _ h.b];rfl
theorem A4Z:RT (Ul G) Jr RsB:=λr h b=>by
 rw[Ul,Jr,List.append_assoc,List.append_assoc,AR (ML (IM hG)) _ h.l,AR (A13 hG) _ h.q,AR (ML (A13 hG)) _ h.r];rfl
theorem A5B:RT (Jj G) Li CrB:=λe h b=>by
 rw[Jj,Li];simp only[List.append_assoc];rw[AR (IM hG) _ h.n,AR (Is hG) _ h.cof,AR (Is hG) _ h.g,AR (Uv hG) _ h.o,AR (OV hG) _ h.c,AR (OV hG) _ h.q,AR (OV hG) _ h.s,AR (A4Z hG) _ h.r,AR (Gj hG (A4I hG) λ_ _=>MT _) _ h.a,AR (Gj hG (A6x hG) λ_ _=>Wu _) _ h.sq,AR (Gj hG (ML (ME hG)) λ_ _=>GQ HL _) _ h.x,AR (Vm hG) _ h.b];rfl
theorem A5s:RT (PU G) FO FB:=λf h b=>by
 rw[PU,FO,List.append_assoc,List.append_assoc,AR (A5D hG) _ h.k,AR (A5G hG) _ h.c,AR (A5B hG) _ h.e];rfl
end
def pG:Lg:=⟨NY,λn=>decide (n<=65535)⟩
theorem A6H:LgOk pG:=⟨λx E b=>A3C x (Nat.lt_trans E ZbN) b,λn h=>decide_eq_true h⟩
def oct(r:Nat->D):List D:=[r 0,r 1,r 2,r 3,r 4,r 5,r 6,r 7]
def Yj{F:Type}(r:Nat->F)(k:Nat)(u:F):Nat->F:=λj=>if j=k then u else r j
theorem XX{r:Nat->D}(h:n<8):CellAt (oct r) n (r n):=by
 refine⟨h,?_⟩
 match n,h with
 |0,_ |1,_ |2,_ |3,_ |4,_ |5,_ |6,_ |7,_=>rfl
section
variable {P:Program} {hp:List Ow} {arg:Operand->AV} {dd:Option Tmp} {ty:TypeId} {ps:String} {af:Array Edge} {gd:Option (Nat×Bool)} {T U:TypeId} {x y:Operand} {k:IntKind} {a b r:Int}
theorem DG(E:arg x=.d (ex (.int k a)))(O:arg y=.d (ex (.int k b)))(A:k.wrap (a+b)=r):Quiet P hp ⟨dd,.binOp .add T x y U,ty,ps,af,gd⟩ arg (.d (ex (.int k r))):=
 Cz rfl E O λw=>by simp[eqGuard,binOp,Op.intArith,A]
theorem IY(E:arg x=.d (ex (.int k a)))(O:arg y=.d (ex (.int k b)))(A:k.wrap (a*b)=r):Quiet P hp ⟨dd,.binOp .mul T x y U,ty,ps,af,gd⟩ arg (.d (ex (.int k r))):=
 Cz rfl E O λw=>by simp[eqGuard,binOp,Op.intArith,A]
theorem HZ(E:arg x=.d (ex (.int k a)))(O:arg y=.d (ex (.int k b)))(F:b≠0)(A:k.wrap (a.tdiv b)=r):Quiet P hp ⟨dd,.binOp .quo T x y U,ty,ps,af,gd⟩ arg (.d (ex (.int k r))):=
 Cz rfl E O λw=>by simp[eqGuard,binOp,Op.intDiv,F,A]
theorem Kv(E:arg x=.d (ex (.int k a)))(O:arg y=.d (ex (.int o (n:Nat))))(i:Min.min n k.bits=n)(B:k.wrap (a*2^n)=r):Quiet P hp ⟨dd,.binOp .shl T x y U,ty,ps,af,gd⟩ arg (.d (ex (.int k r))):=
 Cz rfl E O λw=>by
  have A:¬((n:Int)<0):=by omega
  simp[eqGuard,binOp,Op.shift,A,i,B]
theorem DO(E:arg x=.d (ex (.int k a)))(O:arg y=.d (ex (.int o (n:Nat))))(i:Min.min n k.bits=n)(B:a.fdiv (2^n)=r):Quiet P hp ⟨dd,.binOp .shr T x y U,ty,ps,af,gd⟩ arg (.d (ex (.int k r))):=
 Cz rfl E O λw=>by
  have A:¬((n:Int)<0):=by omega
  simp[eqGuard,binOp,Op.shift,A,i,B]
theorem TF(E:arg x=.d (ex (.int k a)))(O:arg y=.d (ex (.int k b)))(A:k.wrap ((BitVec.ofInt k.bits a ||| BitVec.ofInt k.bits b).toNat)=r):Quiet P hp ⟨dd,.binOp .or T x y U,ty,ps,af,gd⟩ arg (.d (ex (.int k r))):=
 Cz rfl E O λw=>by
  simp only[eqGuard,binOp,Op.intBits,A];simp[A]
theorem AC{S Q:TypeId}{d:TypeDesc}{n b Y B:Nat}(E:arg x=.d (ex (.int k a)))(j:Tab P S d n b z)(h:Tab P Q (.int o) Y B v)(A:o.wrap a=r):Quiet P hp ⟨dd,.convert S Q x,ty,ps,af,gd⟩ arg (.d (ex (.int o r))):=by
 subst A;exact Qx rfl E j h
end
theorem Ec{n:Int}(h:0<=n/\n<=18446744073709551615):IntKind.u64.wrap n=n:=IntWalk.u64_in n h
def ConP(P:Program)(f:FuncId)(args:List AV)(G:List Ow)(Q:AV->List Ow->Prop)(q:List PanicEntry)(N:Prop):Prop:=
 (∀args w,(callFunc f args).run P w=.ok (.enter f args) w)/\∀(s:GS) (W:Nat->Value) (B:List Value),s.Ok->HpOk 0 W s G->Sep s W G->B.length=args.length->(∀(k:Nat) av,args[k]? = some av->AVr G.length W s av (B.getD k undef)) ->
  Calls P f B.toArray s.w λe A=>(∃v,e=.returned v/\∃(j:GS) (y:Nat->Value) (r:AV) (u:List Ow),Q r u/\j.w=A/\AVr u.length y j r v/\Aft s W G [] j y u)\/(e=.panicked q/\N/\∃j:GS,j.w=A/\Aft s W G [] j W (List.replicate G.length .dead))
theorem Tl{n i:Nat}(h:(List.replicate n Ow.dead)[i]? = some vs):vs=.dead:=by
 rw[List.getElem?_replicate]at h;split at h
 .exact (Option.some.inj h).symm
 .cases h
theorem Aft.take{hp:List Ow}{s':GS}{ρ':Nat->Value}(h:Aft s vg hp l s' ρ' vA)(K:∀(i:Nat) o,(vA.take hp.length)[i]? = some o->o.below hp.length):Aft s vg hp l s' ρ' (vA.take hp.length):=by
 have n:(vA.take hp.length).length=hp.length:=by rw[List.length_take];have:=h.len;omega
 have I:∀i o,(vA.take hp.length)[i]? = some o->vA[i]? = some o:=λi o M=>by
  rw[List.getElem?_take]at M;split at M
  .exact M
  .cases M
 refine⟨h.le,h.ok,λi o M=>?_,λi j o E F M e=>h.sep i j o E F (I i o M) (I j E e),λi o b M=>h.own i o b (I i o M),h.kp,by rw[n];exact Nat.le_refl _⟩;have A:=h.mem i o (I i o M);rw[n];have C:=K i o M;have L:i<hp.length:=by have:=Ca M;omega
 exact OwR.un (e:=λi=>i) (by
  have:o.ren (λi=>i)=o:=by
   cases o with
   |dead=>rfl
   |var T c=>exact congrArg (Ow.var T) ((List.map_congr_left λa _=>by cases a<;>simp[AV.ren]).trans (List.map_id _))
   |row T k r=>rfl
   |obj O=>rfl
   |pin B=>exact congrArg Ow.pin ((List.map_congr_left λa _=>by obtain⟨v,a⟩:=a;cases a<;>simp[AV.ren]).trans (List.map_id _))
  rw[this];exact A) C L λ_ _=>rfl
def A4L:AV->Bool
 |.d _=>true
 |_=>false
theorem Con.cut{Q J:AV->List Ow->Prop}(h:Con P vb u H l Q)(w:∀r E,Q r E->A4L r=true/\(∀(i:Nat) o,(E.take H.length)[i]? = some o->o.below H.length)/\J r (E.take H.length)):Con P vb u H l J:=
 ⟨h.1,λs W G A B L V m=>(h.2 s W G A B L V m).mono λe N ⟨v,X,j,y,r,E,K,I,b,C⟩=>by
  obtain⟨Z,F,c⟩:=w r E K
  cases r with
  |d x=>exact⟨v,X,j,y,.d x,_,c,I,b,C.take F⟩
  |_=>cases Z⟩
def FinP(P:Program)(W:Func)(G:List Value)(Q:AV->List Ow->Prop)(q:List PanicEntry)(N:Prop)(e:Exit)(d:AS):Prop:=FinC P W [] G Q e d\/(e=.panic q/\N)
theorem FinP.ret{Q:AV->List Ow->Prop}{r:AV}(h:RetsA P vc vK.results r)(f:FK vc.hp ub.length .dead=some H)(K:Q r H)(G:vc.hp[ub.length]? = some (.pin (EH [] 0 ub))):FinP P vK ub Q vR vD .ret vc:=.inl (Be h f K G)
def PanQ(q:List PanicEntry)(Q:Exit->AS->Prop):Prop:=∀d,Q (.panic q) d
theorem AB{Q:AV->List Ow->Prop}(h:vD):PanQ vR (FinP P vK ub Q vR vD):=λ_=>.inr ⟨rfl,h⟩
theorem As{N:AS->Prop}{Q:Exit->AS->Prop}(h:PanQ vR Q):PanQ vR (AThen N Q):=λd=>⟨h d⟩
theorem PanQ.block{id:Nat}{Q:Exit->AS->Prop}(h:PanQ vR Q):PanQ vR (ABlock id Q):=λd=>⟨h d⟩
theorem PanQ.loop{I:Nat->AS->Prop}{m:Nat}{Q:Exit->AS->Prop}(h:PanQ vR Q):PanQ vR (ALoop I m Q):=λd=>⟨h d⟩
theorem VQ(N:P.funcs[vb]? = some vK)(F:vK.body=some vp)(xe:∀u w,(callFunc vb u).run P w=.ok (.enter vb u) w)(G:Nat.ble u.length vK.ntmps=true)
  (h:∀(R:An) (S:List Value),S.length=H.length->AWp P R vK.ntmps vp (FinP P vK S vv vR vD) ⟨HM 0 u,H++[.pin (EH [] 0 S)]⟩):ConP P vb u H vv vR vD:=by
 refine⟨xe,λs W S Q c xh K q=>calls_of_wp N F ?_⟩;have d:u.length<=vK.ntmps:=by simpa[Nat.ble_eq]using G
 have xb:((List.range H.length).map W).length=H.length:=by simp
 have n:(H++[Ow.pin (EH [] 0 ((List.range H.length).map W))]).length=H.length+1:=by simp
 have xa:∀i o,(H++[Ow.pin (EH [] 0 ((List.range H.length).map W))])[i]? = some o->H[i]? = some o\/o=Ow.pin (EH [] 0 ((List.range H.length).map W)):=λi o M=>by
  rw[List.getElem?_append]at M;split at M
  .exact .inl M
  .rename_i xc
   exact ZaK
 have Hv:∀k,k<H.length->((List.range H.length).map W).getD k undef=W k:=λk C=>by
  exact Zhe
 refine wp_mono ((h ⟨s,Hr s W H,[]⟩ ((List.range H.length).map W) xb).run { tmps:=S.toArray++Array.replicate (vK.ntmps-S.toArray.size) undef,defers:=[] } s.w ⟨s,W,rfl,GS.LeX.refl _ s,Q,λt U J=>?_,by simp;omega,rfl,λi o M=>?_,λi j o l m M E b xd xi=>?_,λi o b M xd=>?_⟩) ?_
 .obtain ⟨_,B⟩:=IL J
  rw[Nat.sub_zero]at B;have L:t<u.length:=(List.getElem?_eq_some_iff.1 B).1;have V:=q t U B
  have:(S.toArray++Array.replicate (vK.ntmps-S.toArray.size) undef).getD t undef=S.getD t undef:=by
   exact ZfC
  show AVr (H++[Ow.pin _]).length W s U ((S.toArray++Array.replicate (vK.ntmps-S.toArray.size) undef).getD t undef);exact ZhX
 .show OwR 0 (H++[Ow.pin _]).length W s i o
  rw[n];rcases xa i o M with A | rfl
  .exact (c i o A).mono (Nat.le_succ _) (λ_ _=>rfl) (Ca A)
  .intro p O
   obtain⟨k,A,rfl⟩:=Jw O;rw[xb]at A;rw[Nat.zero_add];exact⟨by omega,Hv k A⟩
 .rcases xa i o M with A | rfl
  .rcases xa j l E with B | rfl
   .exact xh i j o l m A B b xd xi
   .exact xi.elim
  .exact xd.elim
 .rcases xa i o M with A | rfl
  .exact .inl ⟨i,o,A,xd⟩
  .exact xd.elim
 .intro e a w ⟨τ,z,I,y,Z,x⟩
  subst Z;rcases z with⟨X,⟨r,O,T,xk,g⟩,xj⟩ | ⟨rfl,hN⟩
  rotate_left
  .refine ⟨x.df, .inr ⟨rfl, hN, I, rfl, ⟨x.le, x.ok, λi o M=>?_, λi j o l m M E b F f=>?_, λi o b M F=>?_, λ_ _ _=>rfl, by rw [List.length_replicate]; exact Nat.le_refl _⟩⟩⟩
   .obtain rfl:=Tl M
    trivial
   .obtain rfl:=Tl M
    exact F.elim
   .obtain rfl:=Tl M
    exact F.elim
  subst xk;rw[xb]at xj g;obtain⟨v,A,B⟩:=T.run _ y I a.tmps vK rfl x.hp x.fr
  have Y:∀i o,(τ.hp.set H.length .dead)[i]? = some o->o=Ow.dead\/τ.hp[i]? = some o:=λi o M=>ZaL
  have z:Aft s W H [] I y (τ.hp.set H.length .dead):=by
   refine⟨x.le,x.ok,λi o M=>?_,λi j o l m M E b xd xi=>?_,λi o b M xd=>?_,λi M xg=>?_,?_⟩
   .rw [List.length_set]
    rcases Y i o M with rfl | L
    .trivial
    .exact x.hp i o L
   .rcases Y i o M with rfl | L
    .exact xd.elim
    .rcases Y j l E with rfl | V
     .exact xi.elim
     .exact x.sep i j o l m L V b xd xi
   .rcases Y i o M with rfl | L
    .exact xd.elim
    .exact x.own i o b L xd
   .have L:=x.hp _ _ xj _ (Ps (i:=0) (k:=i) (by rw [xb]; exact M) (by rw [Nat.zero_add]; exact xg))
    rw[Hv i M,Nat.zero_add]at L;exact L.2.symm
   .rw [List.length_set]
    exact Nat.le_of_lt (Ca xj)
  have xf:AVr (τ.hp.set H.length .dead).length y I r v:=by rw[List.length_set];exact B
  rcases X with rfl | rfl
  .exact ZiR
  .exact ZiR
def Jc(e:Nat->Nat)(m:Nat)(y:AV)(B:FuncId)(pre N:List Nat):Prop:=(y=.d (ex (.func (.func B) #[] #[]))/\pre=[]/\N=[])\/(y=.fn B (N.map e)/\pre=[]/\N.all (Nat.blt · m)=true/\Nat.blt B 1000000=true)\/(y=.fn (B+1000000) (pre.map e)/\N=[]/\pre.all (Nat.blt · m)=true)
theorem YA{R:e->uB->Prop}{u:uB}{A B:List e}{V W:List uB}(K:A.length=V.length)(C:∀(k:Nat) a,A[k]? = some a->R a (V.getD k u))(E:∀(k:Nat) a,B[k]? = some a->R a (W.getD k u)):∀(k:Nat) a,(A++B)[k]? = some a->R a ((V++W).getD k u):=λk a h=>by
 rw[List.getElem?_append]at h;rw[List.getD_eq_getElem?_getD,List.getElem?_append];split at h
 .rename_i Q
  rw[if_pos ZbK,<-List.getD_eq_getElem?_getD];exact C k a h
 .rename_i p
  rw[if_neg ZbK,K.symm,<-List.getD_eq_getElem?_getD];exact E _ a h
section
variable {P:Program} {s0:An} {n:Nat} {ops:Array Oper} {Q:Exit->AS->Prop} {rest:List Oper} {fr:List (Nat×AV)} {hp:List Ow}
theorem A2e{hpS:List Ow}(R:va.op=.call { callee:=.value x,args:=vJ.toArray,argTypes:=vr })(sel:List Nat){m:Nat}(t:Ht hp=some m)(p:Jc (BG sel m) hpS.length (AS.arg ⟨fr,hp⟩ x) vb l f)
  (xb:∀vJ w,(callFunc vb vJ).run P w=.ok (.enter vb vJ) w) (O:ArgsC hp (BG sel m) hpS.length (AS.arg ⟨fr,hp⟩) vJ u) (xc:sel.Nodup) (xa:SelR (BG sel m) hp hpS.length sel hpS) (xf:∀i∈l,∃T cells,hpS[i]? = some (.var T cells)) (xe:∀i∈f,∃T cells,hpS[i]? = some (.var T cells))
 (hst:StI s0 n ⟨fr,hp⟩ vj s vg):∃S:List Value,S.length=(l.map (AV.ptr · 0)++u++f.map (AV.ptr · 0)).length/\(execOp vj.eval va).run P s.w=.ok (.enter vb S.toArray) s.w/\HpOk 0 (λk=>vg (BG sel hp.length k)) s hpS/\Sep s (λk=>vg (BG sel hp.length k)) hpS /\
   ∀(k:Nat) U,(l.map (AV.ptr · 0)++u++f.map (AV.ptr · 0))[k]? = some U->AVr hpS.length (λk=>vg (BG sel hp.length k)) s U (S.getD k undef):=by
 obtain rfl:=Fi t;obtain⟨X,Y⟩:=xa.get;obtain⟨xh,xk⟩:=O.get;have xj:∀i,i<hpS.length->(λk=>vg (BG sel hp.length k)) i=vg (BG sel hp.length i):=λ_ _=>rfl
 have y:∀k J,hpS[k]? = some J->hp[BG sel hp.length k]? = some (J.ren (BG sel hp.length)):=λk J F=>by
  rw[EA (by have:=Ca F;omega)];exact(Y k J F).1
 have o:HpOk 0 (λk=>vg (BG sel hp.length k)) s hpS:=λk J F=>(hst.hp _ _ (y k J F)).un (Y k J F).2 (Ca F) xj
 have xd:Sep s (λk=>vg (BG sel hp.length k)) hpS:=λi j Z H v M I b G r=>by
  refine hst.sep _ _ _ _ (λe=>v ?_) (y i Z M) (y j H I) b (OH.2 G) (OH.2 r);have B:=Ca M;have E:=Ca I;rw[EA ZbK,EA ZbK,List.getD_eq_getElem?_getD,List.getElem?_eq_getElem ZbK,List.getD_eq_getElem?_getD,List.getElem?_eq_getElem ZbK]at e;exact RK xc _ _ e
 have xg:∀(k:Nat) U,u[k]? = some U->AVr hpS.length (λk=>vg (BG sel hp.length k)) s U ((vJ.map vj.eval).getD k undef):=λk U F=>by
  obtain⟨A,B,E⟩:=xk k U F;have L:=hst.arg A;have V:(vJ.map vj.eval).getD k undef=vj.eval A:=by rw[List.getD_eq_getElem?_getD,List.getElem?_map,B];rfl
  rw[V];rcases E with⟨d,g,rfl,N,z⟩ | ⟨N,z⟩
  .exact z s _ (DN hst.hp L N)
  .rw [N]at L
   exact L.un z xj
 have xi:∀(C:List Nat),(∀i∈C,∃T cells,hpS[i]? = some (.var T cells))->∀(k:Nat) U,(C.map (AV.ptr · 0))[k]? = some U->AVr hpS.length (λk=>vg (BG sel hp.length k)) s U ((C.map λi=>vg (BG sel hp.length i)).getD k undef):=λC K k U F=>by
  rw[List.getElem?_map]at F;rw[List.getD_eq_getElem?_getD,List.getElem?_map]
  cases M:C[k]? with
  |none=>rw[M]at F;cases F
  |some i=>
   rw[M]at F;cases F;obtain⟨T,cells,B⟩:=K i (List.mem_of_getElem? M);obtain⟨b,a,E,_⟩:=o i _ B;exact⟨Ca B,b,E,E⟩
 have W:u.length=vJ.length:=xh.symm;refine⟨(l.map λi=>vg (BG sel hp.length i))++vJ.map vj.eval++f.map λi=>vg (BG sel hp.length i),by simp[xh],?_,o,xd,YA (by simp[xh]) (YA ZbV (xi l xf) xg) (xi f xe)⟩;have L:=hst.arg x;rcases p with⟨V,rfl,rfl⟩ | ⟨V,rfl,N,z⟩ | ⟨V,rfl,N⟩
 .rw [V]at L
  have c:vj.eval x=.func (.func vb) #[] #[]:=L;simp[execOp,R,resolve,c,Deferred.ofValue,invoke,xb]
 .rw [V]at L
  have c:vj.eval x=.func (.func vb) #[] ((f.map (BG sel hp.length)).map vg).toArray:=by rw[L.2,fnV,z];rfl
  rw[List.map_map]at c;simp[execOp,R,resolve,c,Deferred.ofValue,invoke,xb]
 .rw [V]at L
  have q:Nat.blt (vb+1000000) 1000000=false:=ZaP
  have c:vj.eval x=.func (.func vb) ((l.map (BG sel hp.length)).map vg).toArray #[]:=by rw[L.2,fnV,q,Nat.add_sub_cancel];rfl
  rw[List.map_map]at c;simp[execOp,R,resolve,c,Deferred.ofValue,invoke,xb]
theorem A40{hpS:List Ow}(F:va.op=.call { callee:=.value x,args:=vJ.toArray,argTypes:=vr })(sel:List Nat){m:Nat}(t:Ht hp=some m)(p:Jc (BG sel m) hpS.length (AS.arg ⟨fr,hp⟩ x) vb l f)
  (I:Con P vb (l.map (AV.ptr · 0)++u++f.map (AV.ptr · 0)) hpS vo vv) (H:LostOk sel vo m fr hp) (B:ArgsC hp (BG sel m) hpS.length (AS.arg ⟨fr,hp⟩) vJ u) (xa:sel.Nodup) (U:SelR (BG sel m) hp hpS.length sel hpS) (xe:∀i∈l,∃T cells,hpS[i]? = some (.var T cells)) (xd:∀i∈f,∃T cells,hpS[i]? = some (.var T cells)) (Z:TU va.dst n=true)
  (next:∀r C,vv r C->∃b o Y,AVRen (BG sel m) r b/\SetR (BG sel m) hp sel C o/\AppR (BG sel m) o (KP sel.length C) Y/\AWl P s0 n ops Q rest (AS.put ⟨fr,Y⟩ va.dst b)) :
  ∀(s:GS) (W:Nat->Value) (a:Act),StI s0 n ⟨fr,hp⟩ a s W->∀K:Act->World->Prop,(∀g J N,AWl P s0 n ops Q rest g->St s0 n g J N->K J N)->va.wp P a s.w K (FE s0 n Q):=by
 intro s W a E K S;obtain⟨G,w,xf,R,xb,xg⟩:=A2e F sel t p I.1 B xa U xe xd E;obtain rfl:=Fi t;have V:=I.2 s (λk=>W (BG sel hp.length k)) G E.ok R xb w xg;unfold Oper.wp;rw[xf];refine Calls.mono V λe N h=>?_;obtain⟨v,rfl,j,y,r,C,A,rfl,z,d⟩:=h;obtain⟨b,o,Y,L,O,M,X⟩:=next r C A;replace L:b=r.ren (BG sel hp.length):=L;rw[AppR,LM]at M;subst L;subst M;obtain⟨xc,c,q⟩:=StI.con (sel:=sel) (hpS:=hpS) H.get.1 H.get.2 E xa U d O;exact S _ _ _ X ⟨j,xc,rfl,c.put (GS.Le.refl j) (IR Z) (q r v z)⟩
theorem A3Z{hpS Hd:List Ow}(F:va.op=.call { callee:=.value x,args:=vJ.toArray,argTypes:=vr })(sel:List Nat){m:Nat}(t:Ht hp=some m)(p:Jc (BG sel m) hpS.length (AS.arg ⟨fr,hp⟩ x) vb l f)
  (I:ConP P vb (l.map (AV.ptr · 0)++u++f.map (AV.ptr · 0)) hpS vv vR vD) (xc:SetR (BG sel m) hp sel (List.replicate hpS.length .dead) Hd) (xi:vD->Q (.panic vR) ⟨fr,Hd⟩) (B:ArgsC hp (BG sel m) hpS.length (AS.arg ⟨fr,hp⟩) vJ u) (xd:sel.Nodup) (xb:SelR (BG sel m) hp hpS.length sel hpS) (xh:∀i∈l,∃T cells,hpS[i]? = some (.var T cells)) (xg:∀i∈f,∃T cells,hpS[i]? = some (.var T cells)) (Z:TU va.dst n=true)
  (next:∀r C,vv r C->∃b q c,AVRen (BG sel m) r b/\SetR (BG sel m) hp sel C q/\AppR (BG sel m) q (KP sel.length C) c/\AWl P s0 n ops Q rest (AS.put ⟨fr,c⟩ va.dst b)) :
  ∀(s:GS) (W:Nat->Value) (a:Act),StI s0 n ⟨fr,hp⟩ a s W->∀K:Act->World->Prop,(∀o J N,AWl P s0 n ops Q rest o->St s0 n o J N->K J N)->va.wp P a s.w K (FE s0 n Q):=by
 intro s W a E K X;obtain⟨G,H,xj,R,xe,xk⟩:=A2e F sel t p I.1 B xd xb xh xg E;obtain rfl:=Fi t;obtain⟨U,-⟩:=xb.get;have V:=I.2 s (λk=>W (BG sel hp.length k)) G E.ok R xe H xk;have xa:LostOk sel [] hp.length fr hp:=.inl rfl;unfold Oper.wp;rw[xj];refine Calls.mono V λe N h=>?_;rcases h with⟨v,rfl,j,y,r,C,A,rfl,z,d⟩ | ⟨rfl,hN,j,rfl,d⟩
 .obtain ⟨b,q,c,L,O,M,Y⟩:=next r C A
  replace L:b=r.ren (BG sel hp.length):=L;rw[AppR,LM]at M;subst L;subst M;obtain⟨xf,g,w⟩:=StI.con (sel:=sel) (hpS:=hpS) xa.get.1 xa.get.2 E xd xb d O;exact X _ _ _ Y ⟨j,xf,rfl,g.put (GS.Le.refl j) (IR Z) (w r v z)⟩
 .obtain ⟨xf,g,-⟩:=StI.con (sel:=sel) (hpS:=hpS) xa.get.1 xa.get.2 E xd xb d xc
  have S:(List.replicate hpS.length Ow.dead).drop sel.length=[]:=List.drop_eq_nil_of_le (by rw[List.length_replicate];omega);rw[S,List.map_nil,List.append_nil]at g;exact⟨_,xi hN,j,xf,rfl,g⟩
theorem AD{A:Nat}(v:List Nat)(pre N:List Nat)(I:Con P vb u H l vv)(G:LostOk v l b fr hp)(M:u=pre.map (AV.ptr · 0)++(u.drop pre.length).take vJ.length++N.map (AV.ptr · 0))(B:Ht hp=some b)(p:Jc (BG v b) H.length (AS.arg ⟨fr,hp⟩ x) vb pre N)
  (s:ArgsC hp (BG v b) H.length (AS.arg ⟨fr,hp⟩) vJ ((u.drop pre.length).take vJ.length)) (J:v.Nodup) (j:SelR (BG v b) hp H.length v H) (c:CapsOk H pre) (d:CapsOk H N) (Z:Nat.blt A n=true)
  (next:∀r C,vv r C->∃E y F,AVRen (BG v b) r E/\SetR (BG v b) hp v C y/\AppR (BG v b) y (KP v.length C) F/\AWl P s0 n ops Q rest ⟨(A,E)::fr,F⟩) :
  AWl P s0 n ops Q (⟨some A,.call { callee:=.value x,args:=vJ.toArray,argTypes:=vr },t,vG,vH,none⟩::rest) ⟨fr,hp⟩:=by
 rw[M]at I;exact AWl.step rfl (A40 rfl v B p I G s J j c.get d.get Z next)
theorem AH{A:Nat}(v:List Nat)(pre N:List Nat){m:Nat}(I:ConP P vb u H vv vR vD)(F:SetR (BG v m) hp v (List.replicate H.length .dead) vA)(J:vD->Q (.panic vR) ⟨fr,vA⟩)(M:u=pre.map (AV.ptr · 0)++(u.drop pre.length).take vJ.length++N.map (AV.ptr · 0))(B:Ht hp=some m)(p:Jc (BG v m) H.length (AS.arg ⟨fr,hp⟩ x) vb pre N)
  (s:ArgsC hp (BG v m) H.length (AS.arg ⟨fr,hp⟩) vJ ((u.drop pre.length).take vJ.length)) (G:v.Nodup) (j:SelR (BG v m) hp H.length v H) (c:CapsOk H pre) (d:CapsOk H N) (Z:Nat.blt A n=true)
  (next:∀r C,vv r C->∃b y E,AVRen (BG v m) r b/\SetR (BG v m) hp v C y/\AppR (BG v m) y (KP v.length C) E/\AWl P s0 n ops Q rest ⟨(A,b)::fr,E⟩) :
  AWl P s0 n ops Q (⟨some A,.call { callee:=.value x,args:=vJ.toArray,argTypes:=vr },t,vG,vH,none⟩::rest) ⟨fr,hp⟩:=by
 rw[M]at I;exact AWl.step rfl (A3Z rfl v B p I F J s G j c.get d.get Z next)
end
theorem Ea{F:Option Tmp}{K:Option (Nat×Bool)}(E:vz x=.ptr n 0):Quiet P H ⟨F,.makeFunc (.func vb) #[x] #[],t,vG,vH,K⟩ vz (.fn (vb+1000000) [n]):=by
 refine⟨λbase s W A B l Z q=>?_⟩;have V:=q x ZcE;rw[E]at V;obtain⟨m,b,z,d⟩:=V
 have C:Nat.blt (vb+1000000) 1000000=false:=ZaP
 refine BO (v:=.func (.func vb) #[A x] #[]) (by simp[execOp,Instr.makeFunc]) ⟨GS.Le.refl s,λj e=>by rw[List.mem_singleton.1 e];exact m,?_⟩;rw[fnV,C,Nat.add_sub_cancel,d,List.map_cons,List.map_nil,z];rfl
section
variable {P:Program} {f:FuncId} {fn:Func} {c:Code} {args:List AV} {Q:AV->List Ow->Prop} {ch:List PanicEntry} {N:Prop} (hf:P.funcs[f]? = some fn) (hb:fn.body=some c) (hcf:∀args w,(callFunc f args).run P w=.ok (.enter f args) w) (hn:Nat.ble args.length fn.ntmps=true)
include hf hb hcf hn
theorem Bh(h:∀(A:An) (z:Value),AWp P A fn.ntmps c (FinP P fn [z] Q ch N) ⟨HM 0 args,[vs,.pin [(z,.own 0)]]⟩):ConP P f args [vs] Q ch N:=
 VQ hf hb hcf hn λA G q=>by
  match G,q with
  |[z],_=>exact h A z
end
theorem BK{e:Nat->Nat}{j:Nat}(f:FK H j .dead=some vA):SetR e H [j] (List.replicate 1 Ow.dead) vA:=SetR.cons OwRen.dead f SetR.nil
section
variable {P:Program} {s0:An} {n:Nat} {ops:Array Oper} {Q:Exit->AS->Prop} {rest:List Oper} {fr:List (Nat×AV)} {hp:List Ow}
theorem CR{v:Value}(E:AS.arg ⟨fr,hp⟩ x=.d (ex (.iface U v)))(w:Q (.panic [{ v:=.iface U v,recovered:=false }]) ⟨fr,hp⟩):AWl P s0 n ops Q (⟨none,.panic x,t,vG,vH,none⟩::rest) ⟨fr,hp⟩:=AWl.step rfl λs W a A K m=>by
 have e:a.eval x=.iface U v:=by
  have:=A.arg x;exact ZhT
 have k:(execOp a.eval ⟨none,.panic x,t,vG,vH,none⟩).run P s.w=.halt (.panic (.iface U v)) s.w:=by
  simp[execOp,e,Instr.panic]
 unfold Oper.wp;rw[k];exact⟨⟨fr,hp⟩,w,s,W,rfl,A⟩
end
def GL(s t:Tm):Int:=if JK s.m t.m=true then Ju s.c t.c else GT s.m t.m
def CB:List Tm->List Tm->Int
 |[],[]=>0
 |[],_::_=>-1
 |_::_,[]=>1
 |s::P,t::Q=>if GL s t=0 then CB P Q else GL s t
theorem VS(s t:Tm)(f:RSz s.c 1000000000)(J:RSz t.c 1000000000):Abs Tryz.prog 296 [AJ (Of s),AJ (Of t)] (ex (.int .i64 (GL s t))):=by
 cases h:JK s.m t.m with
 |true=>
  have e:GL s t=Ju s.c t.c:=if_pos h;refine Ab Tryz.func296 λA=>?_;rw[Tryz.ntmps296];have O:=Pm s.c t.c f J;exact ZhO
 |false=>
  have e:GL s t=GT s.m t.m:=if_neg (by rw[h];decide);refine Ab Tryz.func296 λA=>?_;rw[Tryz.ntmps296];have C:=PI s.m t.m;exact ZhO
theorem MI(A:n<vi.length)(B:n<ud.length):CB (vi.drop n) (ud.drop n)=if GL (BJ vi n) (BJ ud n)=0 then CB (vi.drop (n+1)) (ud.drop (n+1))else GL (BJ vi n) (BJ ud n):=by
 rw[FF A,FF B,CB]
theorem TS(P Q:List Tm)(R:PSz P 1000000000)(K:PSz Q 1000000000)(i:P.length<=1000000)(t:Q.length<=1000000):Abs Tryz.prog 295 [BQ P,BQ Q,ex (.func (.func 296) #[] #[])] (ex (.int .i64 (CB P Q))):=by
 refine Ab Tryz.func295 λE=>?_;rw[Tryz.ntmps295];refine Go ?_;refine Az (λB d=>∃k,k<=P.length/\k<=Q.length/\CB P Q=CB (P.drop k) (Q.drop k)/\B=P.length-k/\d=⟨[(0,.d (BQ P)),(1,.d (BQ Q)),(2,.d (ex (.func (.func 296) #[] #[]))),(11,.d (BQ P)),(12,.d (ex (.int .i64 (P.length:Nat)))),(13,.d (ex (.int .i64 (k:Nat))))],[]⟩) ?le ⟨0,by omega,by omega,rfl,rfl,rfl⟩ ?round
 case le=>exact Ad Zdl Zch
 case round=>
  rintro m _ ⟨k,C,j,heq,rfl,rfl⟩;by_cases A:k<P.length
  .by_cases z:k<Q.length
   .have f:=R _ (CV A)
    have J:=K _ (CV z);have Z:=MI A z;by_cases F:GL (BJ P k) (BJ Q k)=0
    .rw [if_pos F]at Z
     have I:=VS (BJ P k) (BJ Q k) f J;refine Go ?_;refine Am (P.length-(k+1)) ZbK ⟨k+1,by omega,by omega,by rw[heq,Z],rfl,rfl⟩ ?_;exact Ad Zdl Zch
    .rw [if_neg F]at Z
     have S:=VS (BJ P k) (BJ Q k) f J;refine Go ?_;exact Ak (Ah (ResV.tmp rfl rfl) (Ac (by rw[heq,Z])))
   .have e:CB P Q=1:=by
     exact ZiS
    refine Go ?_;exact Ak (Ah (ResV.tmp rfl rfl) (Ac ZeC))
  .exact ZaQ
theorem A2L(P Q:List Tm)(R:PSz P 1000000000)(K:PSz Q 1000000000)(i:P.length<=1000000)(t:Q.length<=1000000):Abs Tryz.prog 243 [BQ P,BQ Q] (ex (.int .i64 (CB P Q))):=by
 refine Ab Tryz.func243 λA=>?_;rw[Tryz.ntmps243];have G:=TS P Q R K i t;exact Zfi
theorem ZJ:Ju vL uR=0↔vL=uR:=by
 rw[Ju,Int.sign_eq_zero_iff_zero,Rat.eq_iff_mul_eq_mul];omega
theorem A1p(p q:Rat):Ju q p=-Ju p q:=by
 rw[Ju,Ju,<-Int.sign_neg];exact Zgm
theorem Oh{s t:Tm}(h:Eqv s.m t.m):GL s t=Ju s.c t.c:=if_pos (Gv.2 h)
theorem Og{s t:Tm}(h:¬Eqv s.m t.m):GL s t=lx s.m t.m:=by rw[GL,if_neg λa=>h (Gv.1 a),Lc]
theorem A18(s t:Tm):GL t s=-GL s t:=by
 by_cases h:Eqv s.m t.m
 .rw [Oh h,Oh h.symm];exact A1p _ _
 .rw [Og h,Og λa=>h a.symm];exact A1O _ _
theorem Rr{s t:Tm}:GL s t=0↔s.c=t.c/\Eqv s.m t.m:=by
 by_cases h:Eqv s.m t.m
 .rw [Oh h,ZJ];exact⟨λe=>⟨e,h⟩,λe=>e.1⟩
 .rw [Og h]
  exact⟨λe=>absurd (Ox.1 e) h,λe=>absurd e.2 h⟩
theorem Us:∀P Q:List Tm,CB Q P=-CB P Q
 |[],[]=>by simp[CB]
 |[],_::_=>by simp[CB]
 |_::_,[]=>by simp[CB]
 |s::P,t::Q=>by
  have h:=A18 s t;rw[CB,CB];by_cases g:GL s t=0
  .rw [if_pos g,if_pos ZbK,Us P Q]
  .rw [if_neg g,if_neg ZbK,h]
theorem MH:∀{P Q:List Tm},CB P Q=0↔SameL P Q
 |[],[]=>by simp[CB,SameL]
 |[],_::_=>by simp[CB,SameL]
 |_::_,[]=>by simp[CB,SameL]
 |s::P,t::Q=>by
  have q:=MH (P:=P) (Q:=Q);have h:=Rr (s:=s) (t:=t);rw[CB];by_cases g:GL s t=0
  .rw [if_pos g,q]
   have:=h.1 g;exact⟨λe=>⟨this.1,this.2,e⟩,λe=>e.2.2⟩
  .rw [if_neg g]
   exact⟨λe=>absurd e g,λe=>absurd (h.2 ⟨e.1,e.2.1⟩) g⟩
theorem Ut(h:CB vi ud=0):vi.length=ud.length:=(MH.1 h).length
theorem A0k(s t:Tm)(f:RSz s.c 1000000000)(J:RSz t.c 1000000000):Abs Tryz.prog 135 [AJ (Of s),AJ (Of t)] (ex (.bool (decide (GL s t=0)))):=by
 cases h:JK s.m t.m with
 |true=>
  have e:GL s t=Ju s.c t.c:=if_pos h;by_cases w:Ju s.c t.c=0
  .have Z:decide (GL s t=0)=true:=decide_eq_true (e.trans w)
   refine Ab Tryz.func135 λA=>?_;rw[Tryz.ntmps135];have O:=Pm s.c t.c f J;exact Zgk
  .have Z:decide (GL s t=0)=false:=decide_eq_false (by rw [e]; exact w)
   refine Ab Tryz.func135 λA=>?_;rw[Tryz.ntmps135];have C:=Pm s.c t.c f J;exact Zgk
 |false=>
  have i:¬Eqv s.m t.m:=λa=>by rw[Gv.2 a]at h;cases h
  have Z:decide (GL s t=0)=false:=decide_eq_false λe=>i (Rr.1 e).2;refine Ab Tryz.func135 λA=>?_;rw[Tryz.ntmps135];exact Zgk
theorem XV(P Q:List Tm)(R:PSz P 1000000000)(K:PSz Q 1000000000)(i:P.length<=1000000)(t:Q.length<=1000000):Abs Tryz.prog 134 [BQ P,BQ Q,ex (.func (.func 135) #[] #[])] (ex (.bool (decide (CB P Q=0)))):=by
 by_cases n:P.length=Q.length
 .refine Ab Tryz.func134 λE=>?_
  rw[Tryz.ntmps134];refine Go ?_;refine Az (λB d=>∃k,k<=P.length/\CB P Q=CB (P.drop k) (Q.drop k)/\B=P.length-k/\d=⟨[(1,.d (BQ Q)),(2,.d (ex (.func (.func 135) #[] #[]))),(15,.d (BQ P)),(16,.d (ex (.int .i64 (P.length:Nat)))),(17,.d (ex (.int .i64 (k:Nat))))],[]⟩) ?le ⟨0,by omega,rfl,rfl,rfl⟩ ?round
  case le=>exact ZiT
  case round=>
   rintro m _ ⟨k,C,heq,rfl,rfl⟩;by_cases A:k<P.length
   .have z:k<Q.length:=by omega
    have f:=R _ (CV A);have J:=K _ (CV z);have Z:=MI A z;have c:=A0k (BJ P k) (BJ Q k) f J;by_cases F:GL (BJ P k) (BJ Q k)=0
    .rw [if_pos F]at Z
     rw[decide_eq_true F]at c;refine Go ?_;refine Am (P.length-(k+1)) ZbK ⟨k+1,by omega,by rw[heq,Z],rfl,rfl⟩ ?_;exact ZiT
    .rw [if_neg F]at Z
     rw[decide_eq_false F]at c;have X:decide (CB P Q=0)=false:=decide_eq_false (by rw[heq,Z];exact F);exact ZhE
   .have X:decide (CB P Q=0)=true:=decide_eq_true (by
     rw[heq,(List.drop_eq_nil_of_le ZbK:P.drop k=[]),(List.drop_eq_nil_of_le ZbK:Q.drop k=[]),CB])
    refine Go ?_;exact Ak (Ah (ResV.tmp rfl rfl) (Ac (by rw[X])))
 .have X:decide (CB P Q=0)=false:=decide_eq_false λe=>n (Ut e)
  refine Ab Tryz.func134 λE=>?_;rw[Tryz.ntmps134];exact ZhE
theorem KD(P Q:List Tm)(R:PSz P 1000000000)(K:PSz Q 1000000000)(i:P.length<=1000000)(t:Q.length<=1000000):Abs Tryz.prog 65 [BQ P,BQ Q] (ex (.bool (decide (CB P Q=0)))):=by
 refine Ab Tryz.func65 λA=>?_;rw[Tryz.ntmps65];have f:=XV P Q R K i t;exact Zfi
section
variable {P:Program} {hp:List Ow} {arg:Operand->AV} {dd:Option Tmp} {ty:TypeId} {ps:String} {af:Array Edge} {gd:Option (Nat×Bool)}
end
theorem Mx{Q:Exit->Act->World->Prop}{L:Array Oper}(I:Array Bool->Act->World->Prop)
  (V:∀G a w i,G.size=L.size->I G a w->i∈Region.ready .any L G->wpOp P L Q i (λJ N=>I (G.setIfInBounds i true) J N) a w)
  (R:∀G a w,G.size=L.size->I G a w->Region.ready .any L G=[]->Q .normal a w) :
  ∀(f:Nat) (G:Array Bool) a w,G.size=L.size->G.count false<=f->I G a w->wpAny P .any L Q f G a w:=by
 have W:∀(G:Array Bool) i,i∈Region.ready .any L G->∃h:i<G.size,G[i]=false:=λG i M=>by
  have A:=(mem_ready.1 M).1
  have F:i<G.size:=by
   rcases Nat.lt_or_ge i G.size with h | h
   .exact h
   .rw [Array.getD_eq_getD_getElem?,Array.getElem?_eq_none h]at A
    simp at A
  refine⟨F,?_⟩;rw[Array.getD_eq_getD_getElem?,Array.getElem?_eq_getElem F]at A;simpa using A
 have X:∀(G:Array Bool),Region.ready .any L G≠[]->G.count false≠0:=λG h=>by
  obtain⟨i,M⟩:=List.exists_mem_of_ne_nil _ h;obtain⟨F,q⟩:=W G i M;rw[<-Array.count_toList];have B:G.toList[i]'(ZeF)=false:=by simpa using q
  have E:0<G.toList.count false:=List.count_pos_iff.2 (B▸List.getElem_mem _);omega
 intro f
 induction f with
 |zero=>
  intro G a w k p K;have g:Region.ready .any L G=[]:=Classical.byContradiction λh=>X G h ZbK;exact⟨g,R G a w k K g⟩
 |succ f O=>
  intro G a w k p K;refine⟨λg=>R G a w k K g,λi M=>?_⟩;refine wpOp_mono (λJ N S=>O _ J N (by simpa using k) ?_ S) (V G a w i k K M);obtain⟨F,q⟩:=W G i M
  have C:(G.setIfInBounds i true).count false+1=G.count false:=by
   rw[<-Array.count_toList,<-Array.count_toList,Array.toList_setIfInBounds,List.count_set ZeF];have B:G.toList[i]'(ZeF)=false:=by simpa using q
   have E:0<G.toList.count false:=List.count_pos_iff.2 (B▸List.getElem_mem _);rw[B];have c:(if((false:Bool)==false)=true then 1 else 0)=1:=rfl;have v:(if((true:Bool)==false)=true then 1 else 0)=0:=rfl;rw[c,v];omega
  omega
end
end Go.Proofs.YtcikkglcoeedlaaGreat
