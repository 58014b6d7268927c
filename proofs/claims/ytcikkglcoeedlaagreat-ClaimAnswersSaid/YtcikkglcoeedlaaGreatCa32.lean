/- Part 32 of the proof of claimAnswers_holds. No condition. -/
import Derived.Test.YtcikkglcoeedlaaGreatCa20
import Derived.Test.YtcikkglcoeedlaaGreatCa22
import Derived.Test.YtcikkglcoeedlaaGreatCa24
import Derived.Test.YtcikkglcoeedlaaGreatCa25
import Derived.Test.YtcikkglcoeedlaaGreatCa27
import Derived.Test.YtcikkglcoeedlaaGreatCa29
import Derived.Test.YtcikkglcoeedlaaGreatCa31
set_option linter.unusedSimpArgs false
set_option linter.unusedVariables false
set_option maxRecDepth 100000
set_option maxHeartbeats 4000000
namespace Go.Proofs.YtcikkglcoeedlaaGreat
variable{vr:Array TypeId}{q:Bool}{r vt ul:D}{vi ud:List Tm}{x y vN:Operand}{z v:Value}
section
open Go.RowKit
def pQ(Q:List (List Tm))(i n:Nat):List (List Tm):=(List.range n).map λj=>if Q.length=0 then[]else Q.getD ((i+j)%Q.length) default
def pC(L:List (Nat×List (Nat->Int))):List Tm:=if(EP L).length=0 then[]else(EP L).getD (2%(EP L).length) default
def rQ(Q:List (List Tm)):List (List RTm):=Q.map λP=>P.map EE
noncomputable def Du (Y:Nat) (L:List (Nat×List (Nat->Int))) (V:List Int):Clm:=
 if Y%13=0\/Y%13=1\/Y%13=9 then⟨1+((Y%13:Nat):Int),(pC L).map EE,0,0,0,[],[],[],[]⟩
 else if Y%13=3 then⟨4,[],0,0,0,Jg (BF V 2%256).toNat,rQ (pQ (EP L) 1 (BF V 1%8%4).toNat),[],[]⟩
 else if Y%13=4 then⟨5,[],BF V 3%16,BF V 1%8%4-1,0,[],[],[],[]⟩
 else if Y%13=5 then⟨6,[],BF V 1%8,BF V 1%8-BF V 1%8/3,BF V 1%8/2,[],[],[],[]⟩
 else if Y%13=6 then⟨7,[],0,0,0,[],[],[],(List.range (BF V 1%8%4).toNat).map (MX V)⟩
 else if Y%13=7 then⟨8,(pC L).map EE,0,0,0,[],[],(List.range (BF V 1%8%4).toNat).map (λi=>(BF V i%128)%3-1),(List.range (BF V 1%8%4).toNat).map (MX V)⟩
 else if Y%13=10 then⟨11,[],0,0,0,[],rQ (pQ (EP L) 1 (BF V 1%8%4).toNat),[],[]⟩
 else if Y%13=11\/Y%13=12 then⟨1+((Y%13:Nat):Int),[],BF V 1%8,0,0,[],[],[],[]⟩
 else⟨1+((Y%13:Nat):Int),[],0,0,0,[],[],[],[]⟩
theorem A4V(a:Int):IntKind.u8.wrap a=(((a%256).toNat:Nat):Int):=by
 exact ZfU
theorem Gb(kind:Int)(P:List Tm)(n d r:Int)(o:List (Nat->Int))(Q:List (List Tm))(s:List Int)(b:List (Nat->RQ×RQ)):El ⟨kind,P.map EE,n,d,r,o,rQ Q,s,b⟩=[ex (.int .i64 kind),BQ P,ex (.int .i64 n),ex (.int .i64 d),ex (.int .i64 r),DW o,FT Q,LG s,Gy b]:=by
 rw[Tn,Oo];rfl
abbrev Yu(T Q:Nat)(Y:Nat)(L:List (Nat×List (Nat->Int)))(V:List Int):List D:=[ex (.int .u8 (Y:Nat)),rwD T L,i8D Q V]
theorem QG(T Q:Nat)(Y:Nat)(I:Y<256)(z:Y%13≠6)(d:Y%13≠7)(L:List (Nat×List (Nat->Int)))(C:Rw8 L)(V:List Int)(R:I8 V)(K:V.length<=9223372036854775807):Abs Tryz.prog 24 [AJ (Yu T Q Y L V)] (AJ (El (Du Y L V))):=by
 have J:=Mr T L C
 have w:(EP L).length<=6:=by
  show(Jt L _).length<=6;simp[Jt];omega
 have g:Abs Tryz.prog 62 [FT (EP L),ex (.int .i64 (2:Nat)),ex (.int .i64 (1:Nat))] (FT [pC L]):=Jx (EP L) 2 1 ZbN ZbN ZbK;have c:=FA Q V R 1 ZbN K;have A:=Fe R 1;by_cases p:Y%13=3
 .rw [show Du Y L V=⟨4, ([]:List Tm).map EE, 0, 0, 0, Jg (BF V 2%256).toNat, rQ (pQ (EP L) 1 (BF V 1%8%4).toNat), [], []⟩ from by simp [Du, rQ, p]]
  rw[Gb];refine Ab Tryz.func24 λB=>?_;rw[Tryz.ntmps24];refine Go ?_;refine Dy 9 ?_;refine Cw ?_;refine⟨_,HStep.q rfl (DP 3 rfl rfl ZbK),?_⟩;refine Cw ?_;have E:=FA Q V R 2 ZbN K;have a:=A0v (BF V 2%256).toNat ZbK;have Z:=Jx (EP L) 1 (BF V 1%8%4).toNat ZbN ZbK ZbK;refine Wa<|Y0<|Ao<|Y1 ?_;refine Wq AF ?_;refine Wq AL ?_;refine Y0<|AWp.block<|Ao<|Y1 ?_;refine Wq Bl ?_;refine Wa<|Y0<|Cf<|Y1 ?_;refine Wq Bl ?_;refine Wa<|Y0<|Cf<|AWp.region ?_;refine Wq Bl ?_;refine Wa<|Y0<|Cf<|Y1 ?_;refine Wq Bj ?_;refine Wa<|Y0<|Ct<|AWp.region ?_;refine Wq AF ?_;refine Wq AL ?_;refine Wq (Bs (E)) ?_;refine Wq (AC (r:=(((BF V 2%256).toNat:Nat):Int)) (ao rfl) (Aa rfl) (Aa rfl) (A4V _)) ?_;refine Wq (Bs (a)) ?_;refine Wm<|Wm ?_;refine Wq (Ib (r:=(((BF V 1%8%4).toNat:Nat):Int)) (ao rfl) (ao rfl) ((Gz (BF V 1%((2^3:Nat):Int)) (j:=2) ZbK).trans ZbK)) ?_;refine Wq (Bs (Z)) ?_;refine Wq AF ?_;refine Kd (ao rfl) (ao rfl) rfl (Aa rfl) Zcx rfl rfl ?_;refine Wq AF ?_;refine Kd (ao rfl) (ao rfl) rfl (Aa rfl) Zcx rfl rfl ?_;refine AWl.nil<|Bv<|Yn<|Y1 ?_;refine Wq Bd ?_;refine Sf ?_;refine Y0<|Ci ?_
  exact Ak (Ah (ResV.cell rfl rfl (Aa rfl) rfl rfl rfl) (CH ZbR))
 by_cases x:Y%13=10
 .rw [show Du Y L V=⟨11, ([]:List Tm).map EE, 0, 0, 0, [], rQ (pQ (EP L) 1 (BF V 1%8%4).toNat), [], []⟩ from by simp [Du, rQ, x]]
  rw[Gb];refine Ab Tryz.func24 λB=>?_;refine ZfZ ?_;refine Cw ?_;have Z:=Jx (EP L) 1 (BF V 1%8%4).toNat ZbN ZbK ZbK;refine Go ?_;refine Wq (Ib (r:=(((BF V 1%8%4).toNat:Nat):Int)) (ao rfl) (ao rfl) ((Gz (BF V 1%((2^3:Nat):Int)) (j:=2) ZbK).trans ZbK)) ?_;exact Zfg
 by_cases G:Y%13=4
 .rw [show Du Y L V=⟨5, ([]:List Tm).map EE, BF V 3%16, BF V 1%8%4-1, 0, [], rQ [], [], []⟩ from by simp [Du, rQ, G]]
  rw[Gb];refine Ab Tryz.func24 λB=>?_;refine ZfZ ?_;refine Cw ?_;have E:=FA Q V R 3 ZbN K;refine Go ?_;refine Wq (DP 2 rfl rfl ZbK) ?_;refine Go ?_;refine Wq (DP 4 rfl rfl ZbK) ?_;exact Zfg
 by_cases y:Y%13=5
 .rw [show Du Y L V=⟨6, ([]:List Tm).map EE, BF V 1%8, BF V 1%8-BF V 1%8/3, BF V 1%8/2, [], rQ [], [], []⟩ from by simp [Du, rQ, y]]
  exact ZhG
 by_cases X:Y%13=0
 .rw [show Du Y L V=⟨1, (pC L).map EE, 0, 0, 0, [], rQ [], [], []⟩ from by simp [Du, rQ, X]]
  exact ZhG
 by_cases F:Y%13=1
 .rw [show Du Y L V=⟨2, (pC L).map EE, 0, 0, 0, [], rQ [], [], []⟩ from by simp [Du, rQ, F]]
  exact ZhG
 by_cases S:Y%13=9
 .rw [show Du Y L V=⟨10, (pC L).map EE, 0, 0, 0, [], rQ [], [], []⟩ from by simp [Du, rQ, S]]
  exact ZhG
 by_cases r:Y%13=2
 .rw [show Du Y L V=⟨3, ([]:List Tm).map EE, 0, 0, 0, [], rQ [], [], []⟩ from by simp [Du, rQ, r]]
  exact ZhG
 by_cases O:Y%13=8
 .rw [show Du Y L V=⟨9, ([]:List Tm).map EE, 0, 0, 0, [], rQ [], [], []⟩ from by simp [Du, rQ, O]]
  exact ZhG
 by_cases M:Y%13=11
 .rw [show Du Y L V=⟨12, ([]:List Tm).map EE, BF V 1%8, 0, 0, [], rQ [], [], []⟩ from by simp [Du, rQ, M]]
  exact ZhG
 by_cases N:Y%13=12
 .rw [show Du Y L V=⟨13, ([]:List Tm).map EE, BF V 1%8, 0, 0, [], rQ [], [], []⟩ from by simp [Du, rQ, N]]
  exact ZhG
 omega
def orD(x y:D):D:=⟨λs v=>x.rel s v\/y.rel s v,λh I=>h.elim (λh=>.inl (x.st h I)) λh=>.inr (y.st h I)⟩
theorem A31(h:D.le r vt):D.le r (orD vt ul):=λs v q=>.inl (h s v q)
theorem A30(h:D.le r ul):D.le r (orD vt ul):=λs v q=>.inr (h s v q)
abbrev Rf(V:List Int)(k:Nat):List (Nat->RQ×RQ):=(List.range k).map (MX V)
theorem Vj(V:List Int)(k:Nat):(Rf V (k+1)).map DH=(Rf V k).map DH++[DH (MX V k)]:=by simp[Rf,List.range_succ]
abbrev sgK(V:List Int)(k:Nat):List Int:=(List.range k).map λi=>(BF V i%128)%3-1
abbrev sgR(V:List Int)(k:Nat):List (List D):=(sgK V k).map λz=>[ex (.int .i64 z)]
theorem A1g(V:List Int)(k:Nat):sgR V (k+1)=sgR V k++[[ex (.int .i64 ((BF V k%128)%3-1))]]:=by simp[sgR,sgK,List.range_succ]
theorem Rl(T F:Nat)(Y:Nat)(G:Y<256)(L:List (Nat×List (Nat->Int)))(E:Rw8 L)(V:List Int)(R:I8 V)(K:V.length<=9223372036854775807)(x:Y%13=6):Abs Tryz.prog 24 [AJ (Yu T F Y L V)] (AJ (El (Du Y L V))):=by
 have I:=Mr T L E
 have w:(EP L).length<=6:=by
  show(Jt L _).length<=6;simp[Jt];omega
 have g:Abs Tryz.prog 62 [FT (EP L),ex (.int .i64 (2:Nat)),ex (.int .i64 (1:Nat))] (FT [pC L]):=Jx (EP L) 2 1 ZbN ZbN ZbK;have c:=FA F V R 1 ZbN K;have A:=Fe R 1;obtain⟨N,X⟩:∃N,N=(BF V 1%8%4).toNat:=⟨_,rfl⟩;rw[show Du Y L V=⟨7,([]:List Tm).map EE,0,0,0,[],rQ [],[],Rf V N⟩from by simp[Du,rQ,x,Rf,sgK,X]];rw[Gb];refine Ab Tryz.func24 λB=>?_;refine ZfZ ?_;refine Zfn ?_;rw[show(1+(Y:Int)%13)=7 by omega];refine Lr 131 64 ZbN ZbN rfl ?_;refine Az (λP d=>∃k v,k<=N/\P=N-k/\d=⟨[(1,.ptr 0 0),(2,.ptr 1 0),(4,.ptr 2 0),(5,.d (BQ (pC L))),(6,.d (ex (.int .i64 (BF V 1%((2^3:Nat):Int))))),(7,.d (ex (.int .i64 (k:Nat))))],[.var 58 ((Yu T F Y L V).map .d),.var 34 (([ex (.int .i64 0),ex (.slice none 0 0),ex (.int .i64 0),ex (.int .i64 0),ex (.int .i64 0),ex (.slice none 0 0),ex (.slice none 0 0),ex (.slice none 0 0),ex (.slice none 0 0)]:List D).map .d),.var 34 (([ex (.int .i64 7),ex (.slice none 0 0),ex (.int .i64 0),ex (.int .i64 0),ex (.int .i64 0),ex (.slice none 0 0),ex (.slice none 0 0),ex (.slice none 0 0),ex v]:List D).map .d),.obj (Ri v 131 64 ((Rf V k).map DH))]⟩) ?le ⟨0,.slice none 0 0,by omega,rfl,rfl⟩ ?round
 case le=>exact Ad ZdH (by exact Yv<|Yv<|Yv<|HpLe.cons (OwLe.obj rfl)<|HpLe.nil)
 case round=>
  rintro P _ ⟨k,v,C,rfl,rfl⟩;by_cases Q:k<N
  .have y:=Vy F V R K k ZbK
   refine Go ?_;refine Wq (Ib (r:=((N:Nat):Int)) (ao rfl) (ao rfl) ((Gz (BF V 1%((2^3:Nat):Int)) (j:=2) ZbK).trans ZbK)) ?_;refine Go ?_;refine Jd 3 (.obj (Ri v 131 64 ((Rf V k).map DH))) (.row 131 64 ((Rf V k).map DH++[DH (MX V k)])) 7 9 [8,7,6,5,4,3,2,1,0] [] [.ptr 2 8,.d (ex v),.ptr 0 2,.d (i8D F V),.d (ex (.int .i64 (k:Nat))),.d (AJ (DH (MX V k))),.d (slD 131 64 [DH (MX V k)]),.own 3,.ptr 2 8] [[],[(78,0)],[],[(80,2)],[],[(81,3),(82,4)],[(83,5)],[(79,1),(84,6)],[]] [(1,.ptr 0 0),(2,.ptr 1 0),(4,.ptr 2 0),(5,.d (BQ (pC L))),(6,.d (ex (.int .i64 (BF V 1%((2^3:Nat):Int))))),(7,.d (ex (.int .i64 (k:Nat))))] [(85,.own 3),(86,.ptr 2 8),(1,.ptr 0 0),(2,.ptr 1 0),(4,.ptr 2 0),(5,.d (BQ (pC L))),(6,.d (ex (.int .i64 (BF V 1%((2^3:Nat):Int))))),(7,.d (ex (.int .i64 (k:Nat))))] ZbM rfl ⟨rfl,rfl,rfl,rfl,rfl,rfl,trivial⟩ rfl rfl ZbM ZbM ZbM ZcP ZbM ZbM ⟨rfl,rfl,rfl,rfl,rfl,rfl,rfl,rfl,trivial⟩ [.var 58 ((Yu T F Y L V).map .d),.var 34 (([ex (.int .i64 0),ex (.slice none 0 0),ex (.int .i64 0),ex (.int .i64 0),ex (.int .i64 0),ex (.slice none 0 0),ex (.slice none 0 0),ex (.slice none 0 0),ex (.slice none 0 0)]:List D).map .d),.var 34 (([ex (.int .i64 7),ex (.slice none 0 0),ex (.int .i64 0),ex (.int .i64 0),ex (.int .i64 0),ex (.slice none 0 0),ex (.slice none 0 0),ex (.slice none 0 0),ex v]:List D).map .d),.row 131 64 ((Rf V k).map DH++[DH (MX V k)])] rfl ?_;refine FI (ao rfl) (ao rfl) rfl (Aa rfl) (One.own rfl) rfl rfl ?_;apply Y0;(refine Np 3 131 64 ((Rf V (k+1)).map DH) (by rw[Vj];rfl) λS=>?_);apply Y1;refine Wq AF ?_;refine Wq BT ?_;refine Wq Bl ?_;refine Y0<|Cf<|HG<|Bv<|Yn<|AWp.region<|Wm ?_;refine Wq Dl ?_;refine Wa<|AWl.nil ?_
   skip
   refine Am (N-(k+1)) ZbK ⟨k+1,S,by omega,rfl,rfl⟩ ?_;exact Ad ZdH (by exact HpLe.cons (Af rfl)<|HpLe.cons (Af rfl)<|HpLe.cons (Af rfl)<|HpLe.cons (OwLe.obj rfl)<|HpLe.nil)
  .obtain rfl:k=N:=by omega
   refine HF (σ':=⟨[(1,.ptr 0 0),(2,.ptr 1 0),(4,.ptr 2 0),(5,.d (BQ (pC L))),(6,.d (ex (.int .i64 (BF V 1%((2^3:Nat):Int))))),(7,.d (ex (.int .i64 (k:Nat))))],[.var 58 ((Yu T F Y L V).map .d),.var 34 (([ex (.int .i64 0),ex (.slice none 0 0),ex (.int .i64 0),ex (.int .i64 0),ex (.int .i64 0),ex (.slice none 0 0),ex (.slice none 0 0),ex (.slice none 0 0),ex (.slice none 0 0)]:List D).map .d),.var 34 (([ex (.int .i64 7),ex (.slice none 0 0),ex (.int .i64 0),ex (.int .i64 0),ex (.int .i64 0),ex (.slice none 0 0),ex (.slice none 0 0),ex (.slice none 0 0),Gy (Rf V k)]:List D).map .d),.dead]⟩) ?wk ?_
   case wk=>exact Ad Zdh (HpLe.cons (OwLe.varD rfl) (HpLe.cons (OwLe.varD rfl) (HpLe.cons (OwLe.cells (CellsLe.cons (AVle.d rfl) (CellsLe.cons (AVle.d rfl) (CellsLe.cons (AVle.d rfl) (CellsLe.cons (AVle.d rfl) (CellsLe.cons (AVle.d rfl) (CellsLe.cons (AVle.d rfl) (CellsLe.cons (AVle.d rfl) (CellsLe.cons (AVle.d rfl) (CellsLe.cons (AVle.rows (id:=3) rfl) CellsLe.nil)))))))))) (HpLe.cons OwLe.dead HpLe.nil))))
   refine Go ?_;exact Zgi
theorem Rk(T F:Nat)(Y:Nat)(I:Y<256)(L:List (Nat×List (Nat->Int)))(E:Rw8 L)(V:List Int)(R:I8 V)(K:V.length<=9223372036854775807)(x:Y%13=7):Abs Tryz.prog 24 [AJ (Yu T F Y L V)] (AJ (El (Du Y L V))):=by
 have J:=Mr T L E
 have w:(EP L).length<=6:=by
  show(Jt L _).length<=6;simp[Jt];omega
 have g:Abs Tryz.prog 62 [FT (EP L),ex (.int .i64 (2:Nat)),ex (.int .i64 (1:Nat))] (FT [pC L]):=Jx (EP L) 2 1 ZbN ZbN ZbK;have c:=FA F V R 1 ZbN K;have A:=Fe R 1;obtain⟨N,X⟩:∃N,N=(BF V 1%8%4).toNat:=⟨_,rfl⟩;rw[show Du Y L V=⟨8,(pC L).map EE,0,0,0,[],rQ [],sgK V N,Rf V N⟩from by simp[Du,rQ,x,Rf,sgK,X]];rw[Gb];refine Ab Tryz.func24 λB=>?_;refine ZfZ ?_;refine Zfn ?_;rw[show(1+(Y:Int)%13)=8 by omega];refine Lr 131 64 ZbN ZbN rfl ?_;refine Lr 3 1 ZbN ZbN rfl ?_;refine Az (λP d=>∃k v u,k<=N/\P=N-k/\d=⟨[(1,.ptr 0 0),(2,.ptr 1 0),(4,.ptr 2 0),(5,.d (BQ (pC L))),(6,.d (ex (.int .i64 (BF V 1%((2^3:Nat):Int))))),(7,.d (ex (.int .i64 (k:Nat))))],[.var 58 ((Yu T F Y L V).map .d),.var 34 (([ex (.int .i64 0),ex (.slice none 0 0),ex (.int .i64 0),ex (.int .i64 0),ex (.int .i64 0),ex (.slice none 0 0),ex (.slice none 0 0),ex (.slice none 0 0),ex (.slice none 0 0)]:List D).map .d),.var 34 (([ex (.int .i64 8),orD (ex (.slice none 0 0)) (BQ (pC L)),ex (.int .i64 0),ex (.int .i64 0),ex (.int .i64 0),ex (.slice none 0 0),ex (.slice none 0 0),ex u,ex v]:List D).map .d),.obj (Ri v 131 64 ((Rf V k).map DH)),.obj (Ri u 3 1 (sgR V k))]⟩) ?le ⟨0,.slice none 0 0,.slice none 0 0,by omega,rfl,rfl⟩ ?round
 case le=>exact Ad Zdh (HpLe.cons (OwLe.varD rfl) (HpLe.cons (OwLe.varD rfl) (HpLe.cons (OwLe.cells (CellsLe.cons (AVle.d rfl) (CellsLe.cons (AVle.le (A31 (D.le.refl _))) (CellsLe.cons (AVle.d rfl) (CellsLe.cons (AVle.d rfl) (CellsLe.cons (AVle.d rfl) (CellsLe.cons (AVle.d rfl) (CellsLe.cons (AVle.d rfl) (CellsLe.cons (AVle.d rfl) (CellsLe.cons (AVle.d rfl) CellsLe.nil)))))))))) (HpLe.cons (OwLe.obj rfl) (HpLe.cons (OwLe.obj rfl) HpLe.nil)))))
 case round=>
  rintro P _ ⟨k,v,u,C,rfl,rfl⟩;by_cases Q:k<N
  .have y:=Vy F V R K k ZbK
   have n:=FA F V R k ZbK K;have s:=Fe R k;refine Go ?_;refine Wq (Ib (r:=((N:Nat):Int)) (ao rfl) (ao rfl) ((Gz (BF V 1%((2^3:Nat):Int)) (j:=2) ZbK).trans ZbK)) ?_;refine Go ?_;refine Jd 3 (.obj (Ri v 131 64 ((Rf V k).map DH))) (.row 131 64 ((Rf V k).map DH++[DH (MX V k)])) 7 9 [8,7,6,5,4,3,2,1,0] [] [.ptr 2 8,.d (ex v),.ptr 0 2,.d (i8D F V),.d (ex (.int .i64 (k:Nat))),.d (AJ (DH (MX V k))),.d (slD 131 64 [DH (MX V k)]),.own 3,.ptr 2 8] [[],[(78,0)],[],[(80,2)],[],[(81,3),(82,4)],[(83,5)],[(79,1),(84,6)],[]] [(1,.ptr 0 0),(2,.ptr 1 0),(4,.ptr 2 0),(5,.d (BQ (pC L))),(6,.d (ex (.int .i64 (BF V 1%((2^3:Nat):Int))))),(7,.d (ex (.int .i64 (k:Nat))))] [(85,.own 3),(86,.ptr 2 8),(1,.ptr 0 0),(2,.ptr 1 0),(4,.ptr 2 0),(5,.d (BQ (pC L))),(6,.d (ex (.int .i64 (BF V 1%((2^3:Nat):Int))))),(7,.d (ex (.int .i64 (k:Nat))))] ZbM rfl ⟨rfl,rfl,rfl,rfl,rfl,rfl,trivial⟩ rfl rfl ZbM ZbM ZbM ZcP ZbM ZbM ⟨rfl,rfl,rfl,rfl,rfl,rfl,rfl,rfl,trivial⟩ [.var 58 ((Yu T F Y L V).map .d),.var 34 (([ex (.int .i64 0),ex (.slice none 0 0),ex (.int .i64 0),ex (.int .i64 0),ex (.int .i64 0),ex (.slice none 0 0),ex (.slice none 0 0),ex (.slice none 0 0),ex (.slice none 0 0)]:List D).map .d),.var 34 (([ex (.int .i64 8),orD (ex (.slice none 0 0)) (BQ (pC L)),ex (.int .i64 0),ex (.int .i64 0),ex (.int .i64 0),ex (.slice none 0 0),ex (.slice none 0 0),ex u,ex v]:List D).map .d),.row 131 64 ((Rf V k).map DH++[DH (MX V k)]),.obj (Ri u 3 1 (sgR V k))] rfl ?_;refine FI (ao rfl) (ao rfl) rfl (Aa rfl) (One.own rfl) rfl rfl ?_;apply Y0;(refine Np 3 131 64 ((Rf V (k+1)).map DH) (by rw[Vj];rfl) λS=>?_);apply Y1;refine Wq AF ?_;refine Wq BT ?_;refine Wq Bj ?_;refine Y0<|Ct ?_
   refine HF (σ':=⟨[(1,.ptr 0 0),(2,.ptr 1 0),(4,.ptr 2 0),(5,.d (BQ (pC L))),(6,.d (ex (.int .i64 (BF V 1%((2^3:Nat):Int))))),(7,.d (ex (.int .i64 (k:Nat))))],[.var 58 ((Yu T F Y L V).map .d),.var 34 (([ex (.int .i64 0),ex (.slice none 0 0),ex (.int .i64 0),ex (.int .i64 0),ex (.int .i64 0),ex (.slice none 0 0),ex (.slice none 0 0),ex (.slice none 0 0),ex (.slice none 0 0)]:List D).map .d),.var 34 (([ex (.int .i64 8),orD (ex (.slice none 0 0)) (BQ (pC L)),ex (.int .i64 0),ex (.int .i64 0),ex (.int .i64 0),ex (.slice none 0 0),ex (.slice none 0 0),ex u,ex S]:List D).map .d),.obj (Ri S 131 64 ((Rf V (k+1)).map DH)),.obj (Ri u 3 1 (sgR V k))]⟩) ?wk2 ?_
   case wk2=>exact Ad ZdH (by exact HpLe.cons (Af rfl)<|HpLe.cons (Af rfl)<|HpLe.cons (Af rfl)<|HpLe.cons (OwLe.obj rfl)<|HpLe.cons (OwLe.obj rfl)<|HpLe.nil)
   skip
   refine Jd 4 (.obj (Ri u 3 1 (sgR V k))) (.row 3 1 (sgR V k++[[ex (.int .i64 ((BF V k%128)%3-1))]])) 11 13 [12,11,10,9,8,7,6,5,4,3,2,1,0] [] [.d (BQ (pC L)),.ptr 2 7,.d (ex u),.ptr 0 2,.d (i8D F V),.d (ex (.int .i64 (k:Nat))),.d (ex (.int .i64 (BF V k))),.d (ex (.int .i64 (BF V k%128))),.d (ex (.int .i64 (BF V k%128%3))),.d (ex (.int .i64 (BF V k%128%3-1))),.d (slD 3 1 [[ex (.int .i64 ((BF V k%128)%3-1))]]),.own 4,.ptr 2 1] [[],[],[(91,1)],[],[(93,3)],[],[(94,4),(95,5)],[(96,6)],[(97,7)],[(98,8)],[(99,9)],[(92,2),(100,10)],[]] [(1,.ptr 0 0),(2,.ptr 1 0),(4,.ptr 2 0),(5,.d (BQ (pC L))),(6,.d (ex (.int .i64 (BF V 1%((2^3:Nat):Int))))),(7,.d (ex (.int .i64 (k:Nat))))] [(101,.own 4),(102,.ptr 2 1),(90,.d (BQ (pC L))),(1,.ptr 0 0),(2,.ptr 1 0),(4,.ptr 2 0),(5,.d (BQ (pC L))),(6,.d (ex (.int .i64 (BF V 1%((2^3:Nat):Int))))),(7,.d (ex (.int .i64 (k:Nat))))] ZbM rfl ⟨rfl,rfl,rfl,rfl,rfl,rfl,trivial⟩ rfl rfl ZbM ZbM ZbM (by refine DSteps.q rfl ZbI ?_;refine DSteps.q rfl ZbI ?_;refine DSteps.q rfl ZbI ?_;refine DSteps.q rfl ZbI ?_;refine DSteps.q rfl ZbI ?_;refine DSteps.q rfl ZbI ?_;refine DSteps.q rfl (λ_=>EX (ah rfl) n (ArgsLe.cons rfl (D.le.refl _) (ArgsLe.cons rfl (D.le.refl _) ArgsLe.nil))) ?_;refine DSteps.q rfl (λ_=>Ib (ah rfl) (ah rfl) ((Gz (BF V k) (j:=7) ZbK).trans rfl)) ?_;refine DSteps.q rfl (λ_=>Kw (ah rfl) (ah rfl) ZbN (by rw[Int.tmod_eq_emod_of_nonneg ZbK])) ?_;refine DSteps.q rfl (λ_=>Nb (ah rfl) (ah rfl) ZbK ZbK) ?_;refine DSteps.q rfl (λ_=>AG Zdb) ?_;refine DSteps.k rfl (DTurn.rows rfl rfl rfl (Aa rfl) (Aa rfl) rfl rfl rfl rfl Zhz Zhz) ?_;refine DSteps.q rfl ZbI ?_;exact DSteps.nil) ZbM ZbM ⟨rfl,rfl,rfl,rfl,rfl,rfl,rfl,rfl,rfl,trivial⟩ [.var 58 ((Yu T F Y L V).map .d),.var 34 (([ex (.int .i64 0),ex (.slice none 0 0),ex (.int .i64 0),ex (.int .i64 0),ex (.int .i64 0),ex (.slice none 0 0),ex (.slice none 0 0),ex (.slice none 0 0),ex (.slice none 0 0)]:List D).map .d),.var 34 (([ex (.int .i64 8),orD (ex (.slice none 0 0)) (BQ (pC L)),ex (.int .i64 0),ex (.int .i64 0),ex (.int .i64 0),ex (.slice none 0 0),ex (.slice none 0 0),ex u,ex S]:List D).map .d),.obj (Ri S 131 64 ((Rf V (k+1)).map DH)),.row 3 1 (sgR V k++[[ex (.int .i64 ((BF V k%128)%3-1))]])] rfl ?_;refine Kd (ao rfl) (ao rfl) rfl (Aa rfl) Zcx rfl rfl ?_;refine Wq AF ?_;refine FI (ao rfl) (ao rfl) rfl (Aa rfl) (One.own rfl) rfl rfl ?_;refine AWl.nil<|Bv<|Yn ?_;(refine Np 4 3 1 (sgR V (k+1)) (by rw[A1g];rfl) λG=>?_);refine AWp.region<|Wm ?_;refine Wq Dl ?_;refine Wa<|AWl.nil ?_
   skip
   refine Am (N-(k+1)) ZbK ⟨k+1,S,G,by omega,rfl,rfl⟩ ?_;exact Ad (by repeat (first | exact FrLe.nil | refine Yp ?_ | refine Yd ?_ | refine FrLe.cons rfl (AVle.int ZbK) ?_)) (HpLe.cons (Af rfl) (HpLe.cons (Af rfl) (HpLe.cons (OwLe.cells (CellsLe.cons (AVle.d rfl) (CellsLe.cons (AVle.le (A30 (D.le.refl _))) (CellsLe.cons (AVle.d rfl) (CellsLe.cons (AVle.d rfl) (CellsLe.cons (AVle.d rfl) (CellsLe.cons (AVle.d rfl) (CellsLe.cons (AVle.d rfl) (CellsLe.cons (AVle.d rfl) (CellsLe.cons (AVle.d rfl) CellsLe.nil)))))))))) (HpLe.cons (OwLe.obj rfl) (HpLe.cons (OwLe.obj rfl) HpLe.nil)))))
  .obtain rfl:k=N:=by omega
   refine HF (σ':=⟨[(1,.ptr 0 0),(2,.ptr 1 0),(4,.ptr 2 0),(5,.d (BQ (pC L))),(6,.d (ex (.int .i64 (BF V 1%((2^3:Nat):Int))))),(7,.d (ex (.int .i64 (k:Nat))))],[.var 58 ((Yu T F Y L V).map .d),.var 34 (([ex (.int .i64 0),ex (.slice none 0 0),ex (.int .i64 0),ex (.int .i64 0),ex (.int .i64 0),ex (.slice none 0 0),ex (.slice none 0 0),ex (.slice none 0 0),ex (.slice none 0 0)]:List D).map .d),.var 34 (([ex (.int .i64 8),orD (ex (.slice none 0 0)) (BQ (pC L)),ex (.int .i64 0),ex (.int .i64 0),ex (.int .i64 0),ex (.slice none 0 0),ex (.slice none 0 0),LG (sgK V k),Gy (Rf V k)]:List D).map .d),.dead,.dead]⟩) ?wk ?_
   case wk=>exact Ad Zdh (HpLe.cons (OwLe.varD rfl) (HpLe.cons (OwLe.varD rfl) (HpLe.cons (OwLe.cells (CellsLe.cons (AVle.d rfl) (CellsLe.cons (AVle.d rfl) (CellsLe.cons (AVle.d rfl) (CellsLe.cons (AVle.d rfl) (CellsLe.cons (AVle.d rfl) (CellsLe.cons (AVle.d rfl) (CellsLe.cons (AVle.d rfl) (CellsLe.cons (AVle.rows (id:=4) rfl) (CellsLe.cons (AVle.rows (id:=3) rfl) CellsLe.nil)))))))))) (HpLe.cons OwLe.dead (HpLe.cons OwLe.dead HpLe.nil)))))
   refine Go ?_;exact Zgi
theorem KS(T Q:Nat)(Y:Nat)(F:Y<256)(L:List (Nat×List (Nat->Int)))(A:Rw8 L)(V:List Int)(R:I8 V)(K:V.length<=9223372036854775807):Abs Tryz.prog 24 [AJ (Yu T Q Y L V)] (AJ (El (Du Y L V))):=by
 by_cases z:Y%13=6
 .exact Rl T Q Y F L A V R K z
 by_cases d:Y%13=7
 .exact Rk T Q Y F L A V R K d
 exact QG T Q Y F z d L A V R K
theorem Kh(P Q:List Tm):decide (CB P Q=0)=Fn P Q:=by
 rw[Bool.eq_iff_iff,KX];simp only[decide_eq_true_eq];exact MH
theorem WA(P Q:List Tm):Fn P Q=Fn Q P:=by
 rw[<-Kh,<-Kh,Us P Q];simp
theorem YC(L:List (Nat×List (Nat->Int))):∀P∈EP L,PB P 3 9 2:=λP h=>by
 obtain⟨x,_,rfl⟩:=List.mem_map.1 h;exact A1J x.2 2 3 ZbN
theorem A6I(L:List (Nat×List (Nat->Int))):PB (pC L) 3 9 2:=by
 unfold pC;split
 .exact PB.nil
 .rename_i h
  have Q:2%(EP L).length<(EP L).length:=Nat.mod_lt _ ZbK;rw[List.getD_eq_getElem?_getD,List.getElem?_eq_getElem Q];exact YC L _ (List.getElem_mem Q)
theorem ZC(z:Nat):(Jg z).length<=10:=by
 unfold Jg
 repeat' split
 all_goals simp[revRows,GM]
structure ClOk(kind n d r:Int)(P:List Tm)(o:List (Nat->Int))(s:List Int)(b:List (Nat->RQ×RQ)):Prop where
 kd:1<=kind/\kind<=13
 pb:PB P 3 9 2
 nb:0<=n/\n<=1000
 rb:0<=r/\r<=1000
 rn:0<=r/\r<=n\/kind≠6
 r5:kind=5->r=0
 ob:o.length<=1000
 sb:s.length<=1000
 bb:b.length<=1000
theorem ClOk.mk'{c:Clm}(P:List Tm)(Q:List (List Tm))(G:c.p=P.map EE)(K:c.l=rQ Q)(h:ClOk c.kind c.n c.d c.r P c.o c.s c.b):∃kind P n d r o Q s b,c=⟨kind,P.map EE,n,d,r,o,rQ Q,s,b⟩/\ClOk kind n d r P o s b:=by
 obtain⟨kind,p,n,d,r,o,l,s,b⟩:=c
 dsimp only at G K h
 subst G;subst K;exact⟨_,_,_,_,_,_,_,_,_,rfl,h⟩
theorem PH(Y:Nat)(L:List (Nat×List (Nat->Int)))(V:List Int)(R:I8 V):∃kind P n d r o Q s b,Du Y L V=⟨kind,P.map EE,n,d,r,o,rQ Q,s,b⟩/\ClOk kind n d r P o s b:=by
 have A:=Fe R 1;have B:=Fe R 3;have G:=A6I L;have t:Y%13<13:=Nat.mod_lt _ ZbN;unfold Du;by_cases X:Y%13=0\/Y%13=1\/Y%13=9
 .rw [if_pos X]
  exact ClOk.mk' (pC L) [] rfl rfl ⟨by dsimp only;omega,G,by dsimp only;omega,by dsimp only;omega,.inl ZcD,λ_=>rfl,by simp,by simp,by simp⟩
 rw[if_neg X];by_cases p:Y%13=3
 .rw [if_pos p]
  exact ClOk.mk' [] _ rfl rfl ⟨by dsimp only;omega,PB.nil,by dsimp only;omega,by dsimp only;omega,.inl ZcD,λ_=>rfl,by have:=ZC (BF V 2%256).toNat;exact Nat.le_trans this ZbN,by simp,by simp⟩
 rw[if_neg p];by_cases z:Y%13=4
 .rw [if_pos z]
  exact Zjl
 rw[if_neg z];by_cases y:Y%13=5
 .rw [if_pos y]
  exact ClOk.mk' [] [] rfl rfl ⟨by dsimp only;omega,PB.nil,by dsimp only;omega,by dsimp only;omega,.inl ZcD,λh=>(by dsimp only at h;omega),by simp,by simp,by simp⟩
 rw[if_neg y];by_cases a:Y%13=6
 .rw [if_pos a]
  exact ClOk.mk' [] [] rfl rfl ⟨by dsimp only;omega,PB.nil,by dsimp only;omega,by dsimp only;omega,.inl ZcD,λ_=>rfl,by simp,by simp,by simp;omega⟩
 rw[if_neg a];by_cases E:Y%13=7
 .rw [if_pos E]
  exact ClOk.mk' (pC L) [] rfl rfl ⟨by dsimp only;omega,G,by dsimp only;omega,by dsimp only;omega,.inl ZcD,λ_=>rfl,by simp,by simp;omega,by simp;omega⟩
 rw[if_neg E];by_cases x:Y%13=10
 .rw [if_pos x]
  exact ClOk.mk' [] _ rfl rfl ⟨by dsimp only;omega,PB.nil,by dsimp only;omega,by dsimp only;omega,.inl ZcD,λ_=>rfl,by simp,by simp,by simp⟩
 rw[if_neg x];by_cases C:Y%13=11\/Y%13=12
 .rw [if_pos C]
  exact Zjl
 rw[if_neg C];exact Zjl
section
variable {kind kind' n n' d d' r r':Int} {P P':List Tm} {o o':List (Nat->Int)} {s s':List Int} {b b':List (Nat->RQ×RQ)}
theorem PB.psz9{P:List Tm}(h:PB P 3 9 2):PSz P 1000000000:=h.sz.mono ZbN
end
def Fd(p:List Tm):List (List Tm)->Nat
 |[]=>0
 |q::l=>if CB q p<0 then Fd p l+1 else 0
theorem YG(p:List Tm):∀l,Fd p l<=l.length
 |[]=>Nat.le_refl _
 |q::l=>by
  unfold Fd;split
  .have:=YG p l;exact Zhz
  .exact Nat.zero_le _
theorem YF(p:List Tm):∀{l:List (List Tm)} {k:Nat},k<Fd p l->CB (l.getD k default) p<0
 |[],k,h=>by simp[Fd]at h
 |q::l,0,h=>by
  unfold Fd at h;split at h
  .assumption
  .omega
 |q::l,k+1,h=>by
  unfold Fd at h;split at h
  .exact YF p (l:=l) ZbK
  .omega
theorem YH(p:List Tm):∀{l:List (List Tm)},Fd p l<l.length->¬CB (l.getD (Fd p l) default) p<0
 |[],h=>by simp[Fd]at h
 |q::l,h=>by
  unfold Fd at h ⊢;split at h
  .rename_i w
   rw[if_pos w];simp only[List.getD_cons_succ];exact YH p (l:=l) ZcY
  .rename_i w
   rw[if_neg w];exact w
noncomputable def FY (plain:Bool) (out:List (List Tm)) (p:List Tm):List (List Tm):=
 if p.length=0\/(plain=true/\Ji p=0)\/(Fd p out<out.length/\Fn (out.getD (Fd p out) default) p=true)then out else out.take (Fd p out)++p::out.drop (Fd p out)
noncomputable def NT (plain:Bool) (L:List (List Tm)) (k:Nat):List (List Tm):=(L.take k).foldl (λout P=>FY plain out (FC P)) []
theorem MC(plain:Bool)(L:List (List Tm)){k:Nat}(h:k<L.length):NT plain L (k+1)=FY plain (NT plain L k) (FC (L.getD k default)):=by
 unfold NT;rw[List.take_add_one,List.foldl_append,List.getElem?_eq_getElem h,List.getD_eq_getElem?_getD,List.getElem?_eq_getElem h];rfl
noncomputable abbrev A1c (plain:Bool) (L:List (List Tm)):List (List Tm):=NT plain L L.length
theorem A1U(plain:Bool)(out:List (List Tm))(p:List Tm):(FY plain out p).length<=out.length+1:=by
 unfold FY;split
 .omega
 .exact Zhz
theorem OY(plain:Bool)(L:List (List Tm)):∀k,k<=L.length->(NT plain L k).length<=k
 |0,_=>by simp[NT]
 |k+1,h=>by
  rw[MC plain L ZbK];have A:=A1U plain (NT plain L k) (FC (L.getD k default));have B:=OY plain L k ZbK;omega
theorem A1T{out:List (List Tm)}(h:ud∈FY q out vi):ud=vi\/ud∈out:=by
 unfold FY at h;split at h
 .exact .inr h
 .rcases List.mem_append.1 h with h | h
  .exact .inr (List.mem_of_mem_take h)
  .rcases List.mem_cons.1 h with h | h
   .exact .inl h
   .exact .inr (List.mem_of_mem_drop h)
theorem Uh{plain:Bool}{L:List (List Tm)}{q:List Tm}:∀{k},k<=L.length->q∈NT plain L k->∃P∈L,q=FC P
 |0,_,h=>by simp[NT]at h
 |k+1,C,h=>by
  rw[MC plain L ZbK]at h;rcases A1T h with h | h
  .refine ⟨_,?_,h⟩
   rw[List.getD_eq_getElem?_getD,List.getElem?_eq_getElem ZbK];exact List.getElem_mem _
  .exact Uh ZbK h
theorem WL(h:PB vi 3 9 2):PSz (FC vi) 1000/\PIn (FC vi) 0 65535/\(FC vi).length<=3:=by
 refine⟨?_,?_,by rw[YK];exact h.len⟩
 .unfold FC
  split
  .intro t J;cases J
  .rename_i g
   have A:=Ot vi h.sz h.can ZbK;have B:=Sz (m:=λ_=>0) A h.sz;exact B.mono (by have:=h.len;have:vi.length*9<=3*9:=Nat.mul_le_mul_right 9 h.len;omega)
 .unfold FC
  split
  .intro t J;cases J
  .intro t J
   obtain⟨s,f,rfl⟩:=List.mem_map.1 J;have:=(h.ex.mono (Int.le_refl 0) (show(2:Int)<=65535 by decide)) s f;rw[show(λ_:Nat=>(0:Int))=(λ_=>0)from rfl];simpa[Ke]using this
theorem Qt(L:List (List Tm))(plain:Bool)(T:∀P∈L,PB P 3 9 2)(K:L.length<=100):Abs Tryz.prog 61 [FT L,ex (.bool plain)] (FT (A1c plain L)):=by
 refine Ab Tryz.func61 λB=>?_;rw[Tryz.ntmps61];refine Go ?_;refine Az (λA d=>∃k,k<=L.length/\A=L.length-k/\d=⟨[(0,.d (FT L)),(1,.d (ex (.bool plain))),(5,.d (FT (NT plain L k))),(6,.d (ex (.int .i64 (k:Nat))))],[]⟩) ?le ⟨0,by omega,rfl,rfl⟩ ?round
 case le=>exact Ad (by exact Yd<|Yd<|FrLe.cons rfl (KF rfl (D.le.refl _))<|Yd<|FrLe.nil) Zch
 case round=>
  rintro A _ ⟨k,C,rfl,rfl⟩;by_cases Q:k<L.length
  .have R:=T _ (show L.getD k default∈L by rw [List.getD_eq_getElem?_getD, List.getElem?_eq_getElem Q]; exact List.getElem_mem _)
   obtain⟨V,r,Y⟩:=WL R;have f:=OY plain L k ZbK;have c:=VA (L.getD k default) 9 R.sz R.can (R.ex.mono (Int.le_refl 0) ZbN) ZbN (Nat.le_trans R.len ZbN);obtain⟨p,G⟩:∃p,p=FC (L.getD k default):=⟨_,rfl⟩;obtain⟨O,i⟩:∃O,O=NT plain L k:=⟨_,rfl⟩;rw[<-G]at c V r Y;rw[<-i]at f ⊢
   have Z:∀q∈O,PSz q 1000/\q.length<=3:=λq w=>by
    rw[i]at w;obtain⟨P,b,rfl⟩:=Uh ZbK w;exact⟨(WL (T P b)).1,(WL (T P b)).2.2⟩
   refine Go ?_;have g:=YG p O;have X:NT plain L (k+1)=FY plain O p:=by rw[MC plain L Q,<-i,<-G]
   have W:=A2y p r ZbK;refine Az (λA d=>∃j,j<=Fd p O/\A=O.length-j/\d=⟨[(0,.d (FT L)),(1,.d (ex (.bool plain))),(5,.d (FT O)),(6,.d (ex (.int .i64 (k:Nat)))),(7,.d (BQ p)),(8,.d (ex (.int .i64 (j:Nat))))],[]⟩) ?le ⟨0,Nat.zero_le _,rfl,rfl⟩ ?round
   case le=>exact Ad Zdl Zch
   case round=>
    rintro A _ ⟨j,e,rfl,rfl⟩;by_cases z:j<Fd p O
    .have I:=YF p z
     have t:=Z (O.getD j default) (by rw[List.getD_eq_getElem?_getD,List.getElem?_eq_getElem ZbK];exact List.getElem_mem _);have E:=Sj (O.getD j default) p (t.1.mono ZbN) (V.mono ZbN) ZbK ZbK;refine Go ?_;refine Am (O.length-(j+1)) ZbK ⟨j+1,by omega,rfl,rfl⟩ ?_;exact Ad Zdl Zch
    .obtain rfl:j=Fd p O:=by omega
     by_cases M:Fd p O<O.length
     .have I:=YH p M
      have t:=Z (O.getD (Fd p O) default) (by rw[List.getD_eq_getElem?_getD,List.getElem?_eq_getElem M];exact List.getElem_mem _);have E:=Sj (O.getD (Fd p O) default) p (t.1.mono ZbN) (V.mono ZbN) ZbK ZbK;have a:=Ln (O.getD (Fd p O) default) p;by_cases N:p.length=0
      .exact Zby
      cases plain with
      |true=>
       by_cases S:Ji p=0
       .exact Zbz
       cases s:Fn (O.getD (Fd p O) default) p with
       |true=>
        rw[s]at a;have J:O=FY true O p:=by rw[FY,if_pos (.inr (.inr ⟨M,s⟩))]
        refine Zfc ?_;exact Ad Zcu Zch
       |false=>
        rw[s]at a;have J:O.take (Fd p O)++p::O.drop (Fd p O)=FY true O p:=by rw[FY,if_neg (by rintro(h | ⟨h,F⟩ | ⟨h,F⟩);exact N h;exact S F;(rw[s]at F;cases F))]
        refine Ao<|Y1<|Wm<|Wm ?_;refine Wq Cb ?_;refine Wq Bj ?_;refine Wm ?_;refine Wg Bk ?_;refine Wg Bk ?_;refine Wg Dv ?_;refine Wg AO ?_;refine Wg Bk ?_;refine Wg (Bs (E)) ?_;refine Wg Bl ?_;refine Wq Fg ?_;refine Y0<|Cf<|BZ<|Bz<|BP<|BE<|Yn<|Ao<|Y1<|Wm ?_;refine Wq Cb ?_;refine Wq Bl ?_;refine Wm ?_;refine Wg Bk ?_;refine Wg Bk ?_;refine Wg Bk ?_;refine Wg (Bs (W)) ?_;refine Wg Bl ?_;refine Wg Fg ?_;refine Wq Di ?_;refine Wm ?_;refine Wg Bk ?_;refine Wg Bk ?_;refine Wg Cb ?_;refine Wg Bj ?_;refine Wg Bk ?_;refine Wg Bk ?_;refine Wg Bk ?_;refine Wg Dv ?_;refine Wg AO ?_;refine Wg Bk ?_;refine Wg (Bs (a)) ?_;refine Wg Fg ?_;refine Wq Di ?_;refine Y0<|Cf<|Ys<|Y1<|Wm ?_;(refine CU rfl rfl ?_;refine KE (Aa rfl) (Aa rfl) rfl rfl rfl rfl rfl ?_;refine⟨_,PartOk.one rfl (by exact Ev),?_⟩;refine⟨_,rfl,?_⟩;refine⟨_,rfl,?_⟩);refine Wm<|Wm ?_;refine Wq Md ?_;refine Wq (Ia (ao rfl) rfl (Aa rfl) (Aa rfl) rfl ZcA ZcA) ?_;refine Wa<|Y0<|AWp.region<|Wm<|Wm<|Wm ?_;refine Wq (Ku rfl (Aa rfl) (Aa rfl) rfl (ao rfl) (ao rfl) Zhz) ?_;refine Wm ?_;refine Wq (Ia (ao rfl) rfl (Aa rfl) (Aa rfl) rfl ZcA ZcA) ?_;refine Wa<|AWl.nil<|Bv<|Yn<|AWp.region<|Wm ?_;refine Wq Dl ?_;refine Wa<|AWl.nil ?_
        exact ZfA
      |false=>
       cases s:Fn (O.getD (Fd p O) default) p with
       |true=>
        rw[s]at a;have J:O=FY false O p:=by rw[FY,if_pos (.inr (.inr ⟨M,s⟩))]
        refine Zfc ?_;exact Ad Zcu Zch
       |false=>
        rw[s]at a;have J:O.take (Fd p O)++p::O.drop (Fd p O)=FY false O p:=by rw[FY,if_neg (by rintro(h | ⟨h,F⟩ | ⟨h,F⟩);exact N h;cases h;(rw[s]at F;cases F))]
        refine Ao<|Y1<|Wm<|Wm ?_;refine Wq Cb ?_;refine Wq Bj ?_;refine Wm ?_;refine Wg Bk ?_;refine Wg Bk ?_;refine Wg Dv ?_;refine Wg AO ?_;refine Wg Bk ?_;refine Wg (Bs (E)) ?_;refine Wg Bl ?_;refine Wq Fg ?_;refine Y0<|Cf<|BZ<|Bz<|BP<|BE<|Yn<|Ao<|Y1<|Wm ?_;refine Wq Cb ?_;refine Wq Bl ?_;refine Wm ?_;refine Wg Bk ?_;refine Wg Bk ?_;refine Ws ?_;refine Ws ?_;refine Ws ?_;refine Wg Di ?_;refine Wq Di ?_;refine Wm ?_;refine Wg Bk ?_;refine Wg Bk ?_;refine Wg Cb ?_;refine Wg Bj ?_;refine Wg Bk ?_;refine Wg Bk ?_;refine Wg Bk ?_;refine Wg Dv ?_;refine Wg AO ?_;refine Wg Bk ?_;refine Wg (Bs (a)) ?_;refine Wg Fg ?_;refine Wq Di ?_;refine Y0<|Cf<|Ys<|Y1<|Wm ?_;(refine CU rfl rfl ?_;refine KE (Aa rfl) (Aa rfl) rfl rfl rfl rfl rfl ?_;refine⟨_,PartOk.one rfl (by exact Ev),?_⟩;refine⟨_,rfl,?_⟩;refine⟨_,rfl,?_⟩);refine Wm<|Wm ?_;refine Wq Md ?_;refine Wq (Ia (ao rfl) rfl (Aa rfl) (Aa rfl) rfl ZcA ZcA) ?_;refine Wa<|Y0<|AWp.region<|Wm<|Wm<|Wm ?_;refine Wq (Ku rfl (Aa rfl) (Aa rfl) rfl (ao rfl) (ao rfl) Zhz) ?_;refine Wm ?_;refine Wq (Ia (ao rfl) rfl (Aa rfl) (Aa rfl) rfl ZcA ZcA) ?_;refine Wa<|AWl.nil<|Bv<|Yn<|AWp.region<|Wm ?_;refine Wq Dl ?_;refine Wa<|AWl.nil ?_
        exact ZfA
     .by_cases N:p.length=0
      .exact Zby
      cases plain with
      |true=>
       by_cases S:Ji p=0
       .exact Zbz
       have J:O.take (Fd p O)++p::O.drop (Fd p O)=FY true O p:=by rw[FY,if_neg (by rintro(h | ⟨h,F⟩ | ⟨h,F⟩);exact N h;exact S F;exact M h)]
       refine Ao<|Y1<|Wm<|Wm ?_;refine Wq Cb ?_;refine Wq Bl ?_;refine Wm ?_;refine Ws ?_;refine Ws ?_;refine Ws ?_;refine Ws ?_;refine Ws ?_;refine Ws ?_;refine Ws ?_;refine Wq Di ?_;refine Y0<|Cf<|BZ<|Bz<|BP<|BE<|Yn<|Ao<|Y1<|Wm ?_;refine Wq Cb ?_;refine Wq Bl ?_;refine Wm ?_;refine Wg Bk ?_;refine Wg Bk ?_;refine Wg Bk ?_;refine Wg (Bs (W)) ?_;refine Wg Bl ?_;refine Wg Fg ?_;refine Wq Di ?_;refine Wm ?_;refine Wg Bk ?_;refine Wg Bk ?_;refine Wg Cb ?_;refine Wg Bl ?_;refine Wg Bk ?_;refine Ws ?_;refine Ws ?_;refine Ws ?_;refine Ws ?_;refine Ws ?_;refine Ws ?_;refine Wg Di ?_;refine Wq Di ?_;refine Y0<|Cf<|Ys<|Y1<|Wm ?_;(refine CU rfl rfl ?_;refine KE (Aa rfl) (Aa rfl) rfl rfl rfl rfl rfl ?_;refine⟨_,PartOk.one rfl (by exact Ev),?_⟩;refine⟨_,rfl,?_⟩;refine⟨_,rfl,?_⟩);refine Wm<|Wm ?_;refine Wq Md ?_;refine Wq (Ia (ao rfl) rfl (Aa rfl) (Aa rfl) rfl ZcA ZcA) ?_;refine Wa<|Y0<|AWp.region<|Wm<|Wm<|Wm ?_;refine Wq (Ku rfl (Aa rfl) (Aa rfl) rfl (ao rfl) (ao rfl) Zhz) ?_;refine Wm ?_;refine Wq (Ia (ao rfl) rfl (Aa rfl) (Aa rfl) rfl ZcA ZcA) ?_;refine Wa<|AWl.nil<|Bv<|Yn<|AWp.region<|Wm ?_;refine Wq Dl ?_;refine Wa<|AWl.nil ?_
       exact ZfA
      |false=>
       have J:O.take (Fd p O)++p::O.drop (Fd p O)=FY false O p:=by rw[FY,if_neg (by rintro(h | ⟨h,F⟩ | ⟨h,F⟩);exact N h;cases h;exact M h)]
       refine Ao<|Y1<|Wm<|Wm ?_;refine Wq Cb ?_;refine Wq Bl ?_;refine Wm ?_;refine Ws ?_;refine Ws ?_;refine Ws ?_;refine Ws ?_;refine Ws ?_;refine Ws ?_;refine Ws ?_;refine Wq Di ?_;refine Y0<|Cf<|BZ<|Bz<|BP<|BE<|Yn<|Ao<|Y1<|Wm ?_;refine Wq Cb ?_;refine Wq Bl ?_;refine Wm ?_;refine Wg Bk ?_;refine Wg Bk ?_;refine Ws ?_;refine Ws ?_;refine Ws ?_;refine Wg Di ?_;refine Wq Di ?_;refine Wm ?_;refine Wg Bk ?_;refine Wg Bk ?_;refine Wg Cb ?_;refine Wg Bl ?_;refine Wg Bk ?_;refine Ws ?_;refine Ws ?_;refine Ws ?_;refine Ws ?_;refine Ws ?_;refine Ws ?_;refine Wg Di ?_;refine Wq Di ?_;refine Y0<|Cf<|Ys<|Y1<|Wm ?_;(refine CU rfl rfl ?_;refine KE (Aa rfl) (Aa rfl) rfl rfl rfl rfl rfl ?_;refine⟨_,PartOk.one rfl (by exact Ev),?_⟩;refine⟨_,rfl,?_⟩;refine⟨_,rfl,?_⟩);refine Wm<|Wm ?_;refine Wq Md ?_;refine Wq (Ia (ao rfl) rfl (Aa rfl) (Aa rfl) rfl ZcA ZcA) ?_;refine Wa<|Y0<|AWp.region<|Wm<|Wm<|Wm ?_;refine Wq (Ku rfl (Aa rfl) (Aa rfl) rfl (ao rfl) (ao rfl) Zhz) ?_;refine Wm ?_;refine Wq (Ia (ao rfl) rfl (Aa rfl) (Aa rfl) rfl ZcA ZcA) ?_;refine Wa<|AWl.nil<|Bv<|Yn<|AWp.region<|Wm ?_;refine Wq Dl ?_;refine Wa<|AWl.nil ?_
       exact ZfA
  .obtain rfl:k=L.length:=by omega
   exact Zfi
section
variable {P:Program} {hp:List Ow} {arg:Operand->AV} {dd:Option Tmp} {ty:TypeId} {ps:String} {af:Array Edge} {gd:Option (Nat×Bool)}
theorem Zg{k:IntKind}{a b r:Int}(E:arg x=.d (ex (.int k a)))(O:arg y=.d (ex (.int k b)))(A:Min.min a b=r):Quiet P hp ⟨dd,.call { callee:=.builtin .min,args:=#[x,y],argTypes:=vr },ty,ps,af,gd⟩ arg (.d (ex (.int k r))):=A▸TH E O
theorem A4k{F:Type}{t:TypeId}{e n b Y r T k i j:Nat}{d:TypeDesc}{f:F->List D}{l:List F}(E:GG hp (arg x)=some (slD T k (l.map f)))(O:arg y=.d (ex (.int .i64 (i:Nat))))(C:arg vN=.d (ex (.int .i64 (j:Nat))))(J:Tab P t (.slice e) n b z)(X:Tab P e d Y r v)(B:Y=k)(hi:i<=j)(A:j<=l.length):Quiet P hp ⟨dd,.slice t x (some y) (some vN) none,ty,ps,af,gd⟩ arg (.d (slD T k (((l.take j).drop i).map f))):=by
 have h:=A2D (P:=P) (hp:=hp) (arg:=arg) (dd:=dd) (ty:=ty) (ps:=ps) (af:=af) (gd:=gd) (lo:=some y) (hi:=some vN) (i:=(i:Nat)) (j:=(j:Nat)) E J X B (.inl ⟨y,rfl,O⟩) (.inl ⟨vN,rfl,C⟩) ZbK ZbK (by rw[List.length_map];omega);rw[show((j:Nat):Int).toNat=j from rfl,show((i:Nat):Int).toNat=i from rfl,<-List.map_take,<-List.map_drop]at h;exact h
end
def nK(L:List (Nat×List (Nat->Int)))(V:List Int):Nat:=min (EP L).length (1+BF V 0%2).toNat
noncomputable def A1K (L:List (Nat×List (Nat->Int))) (V:List Int):Cor:=
 ⟨2,rQ (A1c false ((EP L).take (nK L V))),rQ (A1c true (((EP L).take (min (EP L).length (nK L V+1))).drop (nK L V)))⟩
theorem TN(T F:Nat)(Y:Nat)(L:List (Nat×List (Nat->Int)))(C:Rw8 L)(V:List Int)(I:I8 V)(K:V.length<=9223372036854775807):Abs Tryz.prog 23 [AJ (Yu T F Y L V)] (AJ (Fm (A1K L V))):=by
 have J:=Mr T L C;have c:=FA F V I 0 ZbN K;have H:=YC L
 have w:(EP L).length<=6:=by
  show(Jt L _).length<=6;simp[Jt];omega
 have A:=Fe I 0;rw[show Fm (A1K L V)=[ex (.int .i64 2),FT (A1c false ((EP L).take (nK L V))),FT (A1c true (((EP L).take (min (EP L).length (nK L V+1))).drop (nK L V)))]by rw[Oo,Oo];rfl];obtain⟨n,i⟩:∃n,n=nK L V:=⟨_,rfl⟩;have b:((n:Nat):Int)=min (((EP L).length:Nat):Int) (1+BF V 0%2):=by rw[i,nK];omega
 have h:n<=(EP L).length:=by omega
 rw[<-i];obtain⟨Q,E⟩:∃Q,Q=EP L:=⟨_,rfl⟩;rw[<-E]at J H w b h ⊢;clear E i;have s:=Qt (Q.take n) false (λP R=>H P (List.mem_of_mem_take R)) (by rw[List.length_take];omega);have G:=Qt ((Q.take (min Q.length (n+1))).drop n) true (λP R=>H P (List.mem_of_mem_take (List.mem_of_mem_drop R))) (by rw[List.length_drop,List.length_take];omega);refine Ab Tryz.func23 λB=>?_;rw[Tryz.ntmps23];refine Go ?_;refine Wq (DP 1 rfl rfl ZbK) ?_;refine Wq Tw ?_;refine Wq (Zg (r:=((n:Nat):Int)) (ao rfl) (ao rfl) ZbK) ?_;refine Go ?_;refine Dy 14 ?_;refine Xq Bk ?_;refine Xq Bk ?_;refine Xq (Mk rfl rfl (Aa rfl) (Aa rfl) rfl h) ?_;refine Xq (Bs (s)) ?_;refine Xq Bk ?_;refine Xq Bk ?_;refine Xq Bk ?_;refine Xq Cb ?_;refine Xq Bk ?_;refine Xq Dl ?_;refine Xq (Zg (r:=((min Q.length (n+1):Nat):Int)) rfl rfl ZbK) ?_;refine Xq (A4k rfl rfl rfl (Aa rfl) (Aa rfl) rfl ZbK ZbK) ?_;refine Xq (Bs (G)) ?_;(refine Hq rfl ?_;refine AT (Aa rfl) rfl rfl rfl ?_;(repeat ((first | refine⟨_,AA (ah rfl),?_⟩ | refine⟨_,Po rfl,?_⟩);refine⟨_,rfl,?_⟩));refine⟨_,rfl,?_⟩;refine⟨_,rfl,?_⟩);refine⟨_,rfl,?_⟩;exact Zfh
end
end Go.Proofs.YtcikkglcoeedlaaGreat
