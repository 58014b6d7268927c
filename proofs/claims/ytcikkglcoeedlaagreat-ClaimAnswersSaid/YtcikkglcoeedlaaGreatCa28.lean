/- Part 28 of the proof of claimAnswers_holds. No condition. -/
import Derived.Test.YtcikkglcoeedlaaGreatCa20
import Derived.Test.YtcikkglcoeedlaaGreatCa23
import Derived.Test.YtcikkglcoeedlaaGreatCa26
import Derived.Test.YtcikkglcoeedlaaGreatCa27
set_option linter.unusedSimpArgs false
set_option linter.unusedVariables false
set_option maxRecDepth 100000
set_option maxHeartbeats 8000000
namespace Go.Proofs.YtcikkglcoeedlaaGreat
open Go.RowKit
variable{vj:Act}{vp:Code}{vm:Exit->AS->Prop}{s vq:GS}{i:Int}{vf:List (Nat×AV)}{u:List AV}{f:List Nat}{H vA:List Ow}{n:Nat}{vd:Nat->Int}{vg:Nat->Value}{P:Program}{d:TypeDesc}{t U:TypeId}{z v ue:Value}
theorem Kn{F:Type}{Z:List F}{x d:F}(h:Z.length=n):(λi=>(Z++[x]).getD i d)=λi=>if i=n then x else Z.getD i d:=by
 funext i;rw[List.getD_eq_getElem?_getD,List.getD_eq_getElem?_getD];split
 .rename_i e
  subst e;subst h;simp
 .rename_i e
  rcases Nat.lt_or_ge i n with A | A
  .rw [List.getElem?_append_left ZbK]
  .rw [List.getElem?_eq_none Zhz,List.getElem?_eq_none ZbK]
theorem Py:Rdr 265 (λa:Nat->Int=>AJ (Co a)) (QX G0):=Rdr.intro λT l K=>by
 refine Bh Tryz.func265 rfl (Ag Tryz.func265 ZbM ZbM) rfl λA r=>?_;rw[Tryz.ntmps265];refine Go ?_;refine Az (λP d=>∃k Z g,k<=8/\P=8-k/\Z.length=k/\Byt g/\(BU (HH G0) 8 l=(BU (HH G0) (8-k) g).map λy=>(Z++y.1,y.2))/\d=⟨[(0,.ptr 0 0),(2,.ptr 2 0),(4,.d (ex (.int .i64 (k:Nat))))],[.var 92 [.d (FR T g)],.pin [(r,.own 0)],.var 36 ((Co λi=>Z.getD i default).map .d)]⟩) ?le ⟨0,[],l,Nat.zero_le _,rfl,rfl,K,by cases BU (HH G0) 8 l<;>rfl,rfl⟩ ?round
 case le=>exact Ad ZcW (by exact HpLe.cons (Af rfl)<|HpLe.cons (Aj rfl)<|HpLe.cons (Af rfl)<|HpLe.nil)
 case round=>
  rintro P _ ⟨k,Z,g,C,rfl,F,B,b,rfl⟩;by_cases Q:k<8
  .have I:=Fr T g B
   refine Go ?_;refine AH [0] [] [] (I) (BK rfl) (λX=>(by repeat (first | exact AB (Rd.none (Do Q b X)) | apply As | apply PanQ.block | apply PanQ.loop):PanQ _ _) _) rfl rfl ZbH ZbG ZbN ZbE ZbJ trivial rfl ?_;rintro _ _ ⟨x,E,L,m,rfl,rfl⟩;refine Kr ?_;refine Wq Qw ?_;refine Kc (ao rfl) (ao rfl) rfl (Aa rfl) (by first | exact Fj rfl) (SetAt.mon Q) rfl ?_;refine Go ?_;refine Am (8-(k+1)) ZbK ⟨k+1,Z++[x],E,by omega,rfl,by simp[F],m,Dn Q b L,rfl⟩ ?_;exact Ad ZcW (by refine HpLe.cons (Af rfl) ?_;refine HpLe.cons (Aj rfl) ?_;(refine HpLe.cons (OwLe.varD (by rw[Kn F];rfl)) ?_);exact HpLe.nil)
  .obtain rfl:k=8:=by omega
   refine Zfa ?_;exact⟨λi=>Z.getD i default,g,by show KZ (HH G0) l=_;unfold KZ;rw[Rd.some (a:=Z) (l':=g) ZeV];rfl,B,rfl,rfl⟩
theorem AQ:D.le (ex (.slice none 0 0)) (wD []):=λs v h=>⟨Bf s v h,by intro x E;cases E⟩
def AllLe:List D->List D->Prop
 |a::l,b::r=>D.le a b/\AllLe l r
 |[],[]=>True
 |_,_=>False
theorem AllLe.get:∀{l r:List D},AllLe l r->l.length=r.length/\∀(k:Nat) y,r[k]? = some y->∃x,l[k]? = some x/\D.le x y
 |[],[],_=>⟨rfl,λk y h=>by cases h⟩
 |[],_::_,h=>h.elim
 |_::_,[],h=>h.elim
 |a::l,b::r,⟨A,B⟩=>by
  obtain⟨L,V⟩:=AllLe.get B;refine⟨by simp[L],λk y h=>?_⟩
  cases k with
  |zero=>cases h;exact⟨a,rfl,A⟩
  |succ k=>exact V k y ZcY
theorem HC{m T:Nat}{c f:List D}(h:AllLe c f):OwLe H m (.var T (c.map .d)) (.var T (f.map .d)):=by
 obtain⟨A,B⟩:=h.get;refine OwLe.var (by simp[A]) λk y O=>?_;rw[List.getElem?_map]at O
 cases I:f[k]? with
 |none=>rw[I]at O;cases O
 |some z=>
  rw[I]at O;cases O;obtain⟨x,E,K⟩:=B k z I;exact⟨.d x,by rw[List.getElem?_map,E];rfl,AVle.le K⟩
theorem Uy{F:Type}{c:F->List D}{Z:List F}{x d:F}(h:Z.length=n):FU (Yj (λi=>c (Z.getD i d)) n (c x))=FU λi=>c ((Z++[x]).getD i d):=by
 congr 1;funext i;rw[congrFun (Kn h) i];unfold Yj;split<;>rfl
theorem IT{c:Nat->List D}{n i:Nat}{v:List D}(h:∀i,(c i).length=n)(q:v.length=n)(M:i<8):SetAt (FU c) (0+i*n) v (FU (Yj c i v)):=by
 rw[Nat.zero_add];exact A0j h q M
theorem Wi:AllLe [ex (.bool false),ex (.slice none 0 0),ex (.bool false),ex (.slice none 0 0),ex (.bool false),ex (.slice none 0 0),ex (.bool false),ex (.slice none 0 0),ex (.bool false),ex (.slice none 0 0),ex (.bool false),ex (.slice none 0 0),ex (.bool false),ex (.slice none 0 0),ex (.bool false),ex (.slice none 0 0),ex (.bool false),ex (.slice none 0 0),ex (.bool false),ex (.slice none 0 0),ex (.bool false),ex (.slice none 0 0),ex (.bool false),ex (.slice none 0 0),ex (.bool false),ex (.slice none 0 0),ex (.bool false),ex (.slice none 0 0),ex (.bool false),ex (.slice none 0 0),ex (.bool false),ex (.slice none 0 0)] (FU λi=>Ih (([]:List (RQ)).getD i default)):=⟨D.le.refl _,⟨AQ,⟨D.le.refl _,⟨AQ,⟨D.le.refl _,⟨AQ,⟨D.le.refl _,⟨AQ,⟨D.le.refl _,⟨AQ,⟨D.le.refl _,⟨AQ,⟨D.le.refl _,⟨AQ,⟨D.le.refl _,⟨AQ,⟨D.le.refl _,⟨AQ,⟨D.le.refl _,⟨AQ,⟨D.le.refl _,⟨AQ,⟨D.le.refl _,⟨AQ,⟨D.le.refl _,⟨AQ,⟨D.le.refl _,⟨AQ,⟨D.le.refl _,⟨AQ,⟨D.le.refl _,⟨AQ,trivial⟩⟩⟩⟩⟩⟩⟩⟩⟩⟩⟩⟩⟩⟩⟩⟩⟩⟩⟩⟩⟩⟩⟩⟩⟩⟩⟩⟩⟩⟩⟩⟩
theorem A1u(S:Rdr 270 (λx:RQ=>AJ (Ih x)) (FM G0)):Rdr 196 (λf:Nat->RQ=>AJ (Pq f)) (ptP G0):=Rdr.intro λT l K=>by
 refine Bh Tryz.func196 rfl (Ag Tryz.func196 ZbM ZbM) rfl λA r=>?_;rw[Tryz.ntmps196];refine Go ?_;refine Az (λP d=>∃k Z g,k<=8/\P=8-k/\Z.length=k/\Byt g/\(BU (FM G0) 8 l=(BU (FM G0) (8-k) g).map λy=>(Z++y.1,y.2))/\d=⟨[(0,.ptr 0 0),(2,.ptr 2 0),(4,.d (ex (.int .i64 (k:Nat))))],[.var 92 [.d (FR T g)],.pin [(r,.own 0)],.var 187 ((FU λi=>Ih (Z.getD i default)).map .d)]⟩) ?le ⟨0,[],l,Nat.zero_le _,rfl,rfl,K,by cases BU (FM G0) 8 l<;>rfl,rfl⟩ ?round
 case le=>exact Ad ZcW (by exact HpLe.cons (Af rfl)<|HpLe.cons (Aj rfl)<|HpLe.cons (HC Wi)<|HpLe.nil)
 case round=>
  rintro P _ ⟨k,Z,g,C,rfl,F,B,b,rfl⟩;by_cases Q:k<8
  .exact Zbc
  .obtain rfl:k=8:=by omega
   refine Zfa ?_;exact⟨λi=>Z.getD i default,g,by show KZ (FM G0) l=_;unfold KZ;rw[Rd.some (a:=Z) (l':=g) ZeV];rfl,B,rfl,rfl⟩
theorem OL:AllLe [ex (.bool false),ex (.slice none 0 0),ex (.bool false),ex (.slice none 0 0),ex (.bool false),ex (.slice none 0 0),ex (.bool false),ex (.slice none 0 0),ex (.bool false),ex (.slice none 0 0),ex (.bool false),ex (.slice none 0 0),ex (.bool false),ex (.slice none 0 0),ex (.bool false),ex (.slice none 0 0),ex (.bool false),ex (.slice none 0 0),ex (.bool false),ex (.slice none 0 0),ex (.bool false),ex (.slice none 0 0),ex (.bool false),ex (.slice none 0 0),ex (.bool false),ex (.slice none 0 0),ex (.bool false),ex (.slice none 0 0),ex (.bool false),ex (.slice none 0 0),ex (.bool false),ex (.slice none 0 0),ex (.bool false),ex (.slice none 0 0),ex (.bool false),ex (.slice none 0 0),ex (.bool false),ex (.slice none 0 0),ex (.bool false),ex (.slice none 0 0),ex (.bool false),ex (.slice none 0 0),ex (.bool false),ex (.slice none 0 0),ex (.bool false),ex (.slice none 0 0),ex (.bool false),ex (.slice none 0 0),ex (.bool false),ex (.slice none 0 0),ex (.bool false),ex (.slice none 0 0),ex (.bool false),ex (.slice none 0 0),ex (.bool false),ex (.slice none 0 0),ex (.bool false),ex (.slice none 0 0),ex (.bool false),ex (.slice none 0 0),ex (.bool false),ex (.slice none 0 0),ex (.bool false),ex (.slice none 0 0)] (FU λi=>Lw (([]:List (RQ×RQ)).getD i default)):=⟨D.le.refl _,⟨AQ,⟨D.le.refl _,⟨AQ,⟨D.le.refl _,⟨AQ,⟨D.le.refl _,⟨AQ,⟨D.le.refl _,⟨AQ,⟨D.le.refl _,⟨AQ,⟨D.le.refl _,⟨AQ,⟨D.le.refl _,⟨AQ,⟨D.le.refl _,⟨AQ,⟨D.le.refl _,⟨AQ,⟨D.le.refl _,⟨AQ,⟨D.le.refl _,⟨AQ,⟨D.le.refl _,⟨AQ,⟨D.le.refl _,⟨AQ,⟨D.le.refl _,⟨AQ,⟨D.le.refl _,⟨AQ,⟨D.le.refl _,⟨AQ,⟨D.le.refl _,⟨AQ,⟨D.le.refl _,⟨AQ,⟨D.le.refl _,⟨AQ,⟨D.le.refl _,⟨AQ,⟨D.le.refl _,⟨AQ,⟨D.le.refl _,⟨AQ,⟨D.le.refl _,⟨AQ,⟨D.le.refl _,⟨AQ,⟨D.le.refl _,⟨AQ,⟨D.le.refl _,⟨AQ,⟨D.le.refl _,⟨AQ,⟨D.le.refl _,⟨AQ,⟨D.le.refl _,⟨AQ,⟨D.le.refl _,⟨AQ,⟨D.le.refl _,⟨AQ,trivial⟩⟩⟩⟩⟩⟩⟩⟩⟩⟩⟩⟩⟩⟩⟩⟩⟩⟩⟩⟩⟩⟩⟩⟩⟩⟩⟩⟩⟩⟩⟩⟩⟩⟩⟩⟩⟩⟩⟩⟩⟩⟩⟩⟩⟩⟩⟩⟩⟩⟩⟩⟩⟩⟩⟩⟩⟩⟩⟩⟩⟩⟩⟩⟩
theorem A5O(S:Rdr 192 (λx:RQ×RQ=>AJ (Lw x)) (Tb G0)):Rdr 267 (λf:Nat->RQ×RQ=>AJ (DH f)) (To G0):=Rdr.intro λT l K=>by
 refine Bh Tryz.func267 rfl (Ag Tryz.func267 ZbM ZbM) rfl λA r=>?_;rw[Tryz.ntmps267];refine Go ?_;refine Az (λP d=>∃k Z g,k<=8/\P=8-k/\Z.length=k/\Byt g/\(BU (Tb G0) 8 l=(BU (Tb G0) (8-k) g).map λy=>(Z++y.1,y.2))/\d=⟨[(0,.ptr 0 0),(2,.ptr 2 0),(4,.d (ex (.int .i64 (k:Nat))))],[.var 92 [.d (FR T g)],.pin [(r,.own 0)],.var 131 ((FU λi=>Lw (Z.getD i default)).map .d)]⟩) ?le ⟨0,[],l,Nat.zero_le _,rfl,rfl,K,by cases BU (Tb G0) 8 l<;>rfl,rfl⟩ ?round
 case le=>exact Ad ZcW (by exact HpLe.cons (Af rfl)<|HpLe.cons (Aj rfl)<|HpLe.cons (HC OL)<|HpLe.nil)
 case round=>
  rintro P _ ⟨k,Z,g,C,rfl,F,B,b,rfl⟩;by_cases Q:k<8
  .exact Zbc
  .obtain rfl:k=8:=by omega
   refine Zfa ?_;exact⟨λi=>Z.getD i default,g,by show KZ (Tb G0) l=_;unfold KZ;rw[Rd.some (a:=Z) (l':=g) ZeV];rfl,B,rfl,rfl⟩
theorem SetAt.rt{t:RTm}(h:n<8):SetAt (rtC t) (0+4+n*1) [ex (.int .i64 i)] (rtC { t with m:=Pe t.m n i }):=by
 rcases lt8 h with rfl | rfl | rfl | rfl | rfl | rfl | rfl | rfl<;>exact⟨Nat.le_of_ble_eq_true rfl,rfl⟩
theorem A3h(S:Rdr 270 (λx:RQ=>AJ (Ih x)) (FM G0)):Rdr 263 (λt:RTm=>AJ (rtC t)) (Im G0):=Rdr.intro λT l K=>by
 have I:=S T l K;refine Bh Tryz.func263 rfl (Ag Tryz.func263 ZbM ZbM) rfl λB J=>?_;rw[Tryz.ntmps263];refine Zfb ?_;rintro _ _ ⟨a,o,g,R,rfl,rfl⟩;refine Zfp ?_;refine Az (λP d=>∃k Z G,k<=8/\P=8-k/\Z.length=k/\Byt G/\(BU (PX G0) 8 o=(BU (PX G0) (8-k) G).map λy=>(Z++y.1,y.2))/\d=⟨[(0,.ptr 0 0),(2,.ptr 2 0),(3,.ptr 3 0),(9,.d (ex (.int .i64 (k:Nat))))],[.var 92 [.d (FR T G)],.pin [(J,.own 0)],.var 114 ([ex (.bool false),ex (.slice none 0 0),ex (.bool false),ex (.slice none 0 0),ex (.int .i64 0),ex (.int .i64 0),ex (.int .i64 0),ex (.int .i64 0),ex (.int .i64 0),ex (.int .i64 0),ex (.int .i64 0),ex (.int .i64 0)].map .d),.var 114 ((rtC ⟨a.b,a.l,a.b',a.l',λi=>Z.getD i default⟩).map .d)]⟩) ?le ⟨0,[],o,Nat.zero_le _,rfl,rfl,R,by cases BU (PX G0) 8 o<;>rfl,rfl⟩ ?round
 case le=>exact Ad ZcZ (by exact HpLe.cons (Af rfl)<|HpLe.cons (Aj rfl)<|HpLe.cons (Af rfl)<|HpLe.cons (Af rfl)<|HpLe.nil)
 case round=>
  rintro P _ ⟨k,Z,G,C,rfl,O,M,b,rfl⟩
  have h:∀{r},BU (PX G0) 8 o=r->Im G0 l=(match r with | none=>none | some (V,N)=>some (⟨a.b,a.l,a.b',a.l',λi=>V.getD i default⟩,N)):=λ{r} b=>by
   unfold Im;rw[Rd.some g];unfold KZ Rd.bind;rw[b];cases r<;>rfl
  by_cases Q:k<8
  .have I:=Db T G M
   refine Go ?_;refine AH [0] [] [] (I) (BK rfl) (λX=>(by repeat (first | exact AB (h (Do Q b (Rd.none X))) | apply As | apply PanQ.block | apply PanQ.loop):PanQ _ _) _) rfl rfl ZbH ZbG ZbN ZbE ZbJ trivial rfl ?_;rintro _ _ ⟨n,N,L,m,rfl,rfl⟩;refine Kr ?_;have A:=ET L;by_cases F:65535<n
   .have E:PX G0 G=none:=by
     unfold PX;rw[Rd.some (p:=G0.nat) L];exact if_neg (by simp[G0];omega)
    refine Go ?_;refine Wq (DU (ao rfl) (Aa rfl)) ?_;refine CR (ao rfl) ?_;exact(by repeat (first | exact AB (h (Do Q b E)) | apply As | apply PanQ.block | apply PanQ.loop):PanQ _ _) _
   .have E:PX G0 G=some ((n:Int),N):=by
     unfold PX;rw[Rd.some (p:=G0.nat) L];exact if_pos (by simp[G0];omega)
    refine Wa<|Y0<|Ao<|Y1<|Wm ?_;refine Wq Bl ?_;refine Y0<|Cf<|Ys<|AWp.region<|Wm<|Wm ?_;refine Wq (AC (r:=((n:Nat):Int)) (ao rfl) (Aa rfl) (Aa rfl) Zeq) ?_;refine Wq AF ?_;refine Wq Qw ?_;refine Kc (ao rfl) (ao rfl) rfl (Aa rfl) (by first | exact Fj rfl) (SetAt.rt Q) rfl ?_;refine AWl.nil<|Bv<|Yn<|AWp.region ?_;refine Wq Dl ?_;refine Wm<|AWl.nil ?_
    refine Am (8-(k+1)) ZbK ⟨k+1,Z++[(n:Int)],N,by omega,rfl,by simp[O],m,Dn Q b E,rfl⟩ ?_;exact Ad ZcZ (by refine HpLe.cons (Af rfl) ?_;refine HpLe.cons (Aj rfl) ?_;refine HpLe.cons (Af rfl) ?_;(refine HpLe.cons (OwLe.varD (by rw[Kn O];rfl)) ?_);exact HpLe.nil)
  .obtain rfl:k=8:=by omega
   refine Zfa ?_;exact⟨_,G,by rw[h b];simp[BU,BY],M,rfl,rfl⟩
theorem A3Y(R:Rdr 184 (λL:List (List RTm)=>Ip L) (Ei G0))(j:Suf (Ei G0)):Rdr 96 (λk:Cor=>AJ (Fm k)) (Vf G0):=Rdr.intro λT l K=>by
 have I:=Fr T l K;refine Bh Tryz.func96 rfl (Ag Tryz.func96 ZbM ZbM) rfl λE r=>?_;rw[Tryz.ntmps96];refine Zfb ?_;rintro _ _ ⟨n,o,A,U,rfl,rfl⟩;refine Kr ?_;have J:=R T o U;refine Go ?_;refine AH [0] [] [] (J) (BK rfl) (λX=>(by repeat (first | exact AB (by unfold Vf;rw[Rd.some A];exact Rd.none X) | apply As | apply PanQ.block | apply PanQ.loop):PanQ _ _) _) rfl rfl ZbH ZbG ZbN ZbE ZbJ trivial rfl ?_;rintro _ _ ⟨e,g,B,F,rfl,rfl⟩;refine Kr ?_;have M:=R T g F;refine Go ?_;refine AH [0] [] [] (M) (BK rfl) (λX=>(by repeat (first | exact AB (by unfold Vf;rw[Rd.some A,Rd.some B];exact Rd.none X) | apply As | apply PanQ.block | apply PanQ.loop):PanQ _ _) _) rfl rfl ZbH ZbG ZbN ZbE ZbJ trivial rfl ?_;rintro _ _ ⟨f,G,C,m,rfl,rfl⟩;refine Kr ?_;refine Zfa ?_;exact⟨⟨n,e,f⟩,G,by unfold Vf;rw[Rd.some A,Rd.some B,Rd.some C];rfl,m,rfl,rfl⟩
theorem A2d(xa:Rdr 185 (λx:List RTm=>Jh x) (GJ G0))(f:Rdr 184 (λx:List (List RTm)=>Ip x) (Ei G0))(k:Rdr 186 (λx:List (Nat->Int)=>DW x) (MJ G0))(j:Rdr 188 (λx:List (Nat->RQ×RQ)=>Gy x) (MW G0)):Rdr 97 (λc:Clm=>AJ (El c)) (Lk G0):=Rdr.intro λT l K=>by
 have h:=Fr T l K;refine Bh Tryz.func97 rfl (Ag Tryz.func97 ZbM ZbM) rfl λC G=>?_;rw[Tryz.ntmps97];refine Go ?_;refine AH [0] [] [] (h) (BK rfl) (λX=>(by repeat (first | exact AB (by unfold Lk;exact Rd.none X) | apply As | apply PanQ.block | apply PanQ.loop):PanQ _ _) _) rfl rfl ZbH ZbG ZbN ZbE ZbJ trivial rfl ?_;rintro _ _ ⟨kind,F,A,U,rfl,rfl⟩;refine Kr ?_;have Q:=xa T F U;refine Go ?_;refine AH [0] [] [] (Q) (BK rfl) (λX=>(by repeat (first | exact AB (by unfold Lk;rw[Rd.some A];exact Rd.none X) | apply As | apply PanQ.block | apply PanQ.loop):PanQ _ _) _) rfl rfl ZbH ZbG ZbN ZbE ZbJ trivial rfl ?_;rintro _ _ ⟨p,g,B,I,rfl,rfl⟩;refine Kr ?_;have O:=Fr T g I;refine Go ?_;refine AH [0] [] [] (O) (BK rfl) (λX=>(by repeat (first | exact AB (by unfold Lk;rw[Rd.some A,Rd.some B];exact Rd.none X) | apply As | apply PanQ.block | apply PanQ.loop):PanQ _ _) _) rfl rfl ZbH ZbG ZbN ZbE ZbJ trivial rfl ?_;rintro _ _ ⟨n,M,L,N,rfl,rfl⟩;refine Kr ?_;have R:=Fr T M N;refine Go ?_;refine AH [0] [] [] (R) (BK rfl) (λX=>(by repeat (first | exact AB (by unfold Lk;rw[Rd.some A,Rd.some B,Rd.some L];exact Rd.none X) | apply As | apply PanQ.block | apply PanQ.loop):PanQ _ _) _) rfl rfl ZbH ZbG ZbN ZbE ZbJ trivial rfl ?_;rintro _ _ ⟨d,i,V,H,rfl,rfl⟩;refine Kr ?_;have Y:=Fr T i H;refine Go ?_;refine AH [0] [] [] (Y) (BK rfl) (λX=>(by repeat (first | exact AB (by unfold Lk;rw[Rd.some A,Rd.some B,Rd.some L,Rd.some V];exact Rd.none X) | apply As | apply PanQ.block | apply PanQ.loop):PanQ _ _) _) rfl rfl ZbH ZbG ZbN ZbE ZbJ trivial rfl ?_;rintro _ _ ⟨r,y,m,S,rfl,rfl⟩;refine Kr ?_;have q:=k T y S;refine Go ?_;refine AH [0] [] [] (q) (BK rfl) (λX=>(by repeat (first | exact AB (by unfold Lk;rw[Rd.some A,Rd.some B,Rd.some L,Rd.some V,Rd.some m];exact Rd.none X) | apply As | apply PanQ.block | apply PanQ.loop):PanQ _ _) _) rfl rfl ZbH ZbG ZbN ZbE ZbJ trivial rfl ?_;rintro _ _ ⟨o,l6,z,a,rfl,rfl⟩;refine Kr ?_;have t:=f T l6 a;refine Go ?_;refine AH [0] [] [] (t) (BK rfl) (λX=>(by repeat (first | exact AB (by unfold Lk;rw[Rd.some A,Rd.some B,Rd.some L,Rd.some V,Rd.some m,Rd.some z];exact Rd.none X) | apply As | apply PanQ.block | apply PanQ.loop):PanQ _ _) _) rfl rfl ZbH ZbG ZbN ZbE ZbJ trivial rfl ?_;rintro _ _ ⟨P,l7,E,W,rfl,rfl⟩;refine Kr ?_;have v:=(A6D Fr) T l7 W;refine ZfI ?_;refine AH [0] [] [] (v) (BK rfl) (λX=>(by repeat (first | exact AB (by unfold Lk;rw[Rd.some A,Rd.some B,Rd.some L,Rd.some V,Rd.some m,Rd.some z,Rd.some E];exact Rd.none X) | apply As | apply PanQ.block | apply PanQ.loop):PanQ _ _) _) rfl rfl ZbH ZbG ZbN ZbE ZbJ trivial rfl ?_;rintro _ _ ⟨s,l8,u,Z,rfl,rfl⟩;refine Kr ?_;have w:=j T l8 Z;refine Go ?_;refine AH [0] [] [] (w) (BK rfl) (λX=>(by repeat (first | exact AB (by unfold Lk;rw[Rd.some A,Rd.some B,Rd.some L,Rd.some V,Rd.some m,Rd.some z,Rd.some E,Rd.some u];exact Rd.none X) | apply As | apply PanQ.block | apply PanQ.loop):PanQ _ _) _) rfl rfl ZbH ZbG ZbN ZbE ZbJ trivial rfl ?_;rintro _ _ ⟨b,l9,J,e,rfl,rfl⟩;refine Kr ?_;refine Zfa ?_;exact⟨⟨kind,p,n,d,r,o,P,s,b⟩,l9,by unfold Lk;rw[Rd.some A,Rd.some B,Rd.some L,Rd.some V,Rd.some m,Rd.some z,Rd.some E,Rd.some u,Rd.some J];rfl,e,rfl,rfl⟩
theorem A0i{u:List RQ}{r:Nat->List RQ}{v:List RQ}(h:n<8):SetAt (SI ⟨vd,u,r⟩) (0+9+n*1) [KG v] (SI ⟨vd,u,Yj r n v⟩):=by
 rcases lt8 h with rfl | rfl | rfl | rfl | rfl | rfl | rfl | rfl<;>exact⟨Nat.le_of_ble_eq_true rfl,rfl⟩
theorem A0V{u:List RQ}:AllLe [ex (.int .i64 (vd 0)),ex (.int .i64 (vd 1)),ex (.int .i64 (vd 2)),ex (.int .i64 (vd 3)),ex (.int .i64 (vd 4)),ex (.int .i64 (vd 5)),ex (.int .i64 (vd 6)),ex (.int .i64 (vd 7)),KG u,ex (.slice none 0 0),ex (.slice none 0 0),ex (.slice none 0 0),ex (.slice none 0 0),ex (.slice none 0 0),ex (.slice none 0 0),ex (.slice none 0 0),ex (.slice none 0 0)] (SI ⟨vd,u,λi=>([]:List (List RQ)).getD i default⟩):=
 ⟨D.le.refl _,D.le.refl _,D.le.refl _,D.le.refl _,D.le.refl _,D.le.refl _,D.le.refl _,D.le.refl _,D.le.refl _,Bf,Bf,Bf,Bf,Bf,Bf,Bf,Bf,trivial⟩
theorem SL(S:Rdr 269 (λL:List RQ=>KG L) (Sy G0)):Rdr 190 (λr:Rsl=>AJ (SI r)) (Ul G0):=Rdr.intro λT l K=>by
 have I:=Py T l K;refine Bh Tryz.func190 rfl (Ag Tryz.func190 ZbM ZbM) rfl λB F=>?_;rw[Tryz.ntmps190];refine Zfb ?_;rintro _ _ ⟨W,N,s,f,rfl,rfl⟩;refine Kr ?_;have O:=S T N f;refine Go ?_;refine AH [0] [] [] (O) (BK rfl) (λX=>(by repeat (first | exact AB (by unfold Ul;rw[Rd.some s];exact Rd.none X) | apply As | apply PanQ.block | apply PanQ.loop):PanQ _ _) _) rfl rfl ZbH ZbG ZbN ZbE ZbJ trivial rfl ?_;rintro _ _ ⟨u,o,g,R,rfl,rfl⟩;refine Zfp ?_;refine Az (λP d=>∃k Z E,k<=8/\P=8-k/\Z.length=k/\Byt E/\(BU (Sy G0) 8 o=(BU (Sy G0) (8-k) E).map λy=>(Z++y.1,y.2))/\d=⟨[(0,.ptr 0 0),(2,.ptr 2 0),(3,.ptr 3 0),(11,.d (ex (.int .i64 (k:Nat))))],[.var 92 [.d (FR T E)],.pin [(F,.own 0)],.var 41 ([ex (.int .i64 0),ex (.int .i64 0),ex (.int .i64 0),ex (.int .i64 0),ex (.int .i64 0),ex (.int .i64 0),ex (.int .i64 0),ex (.int .i64 0),ex (.slice none 0 0),ex (.slice none 0 0),ex (.slice none 0 0),ex (.slice none 0 0),ex (.slice none 0 0),ex (.slice none 0 0),ex (.slice none 0 0),ex (.slice none 0 0),ex (.slice none 0 0)].map .d),.var 41 ((SI ⟨W,u,λi=>Z.getD i default⟩).map .d)]⟩) ?le ⟨0,[],o,Nat.zero_le _,rfl,rfl,R,by cases BU (Sy G0) 8 o<;>rfl,rfl⟩ ?round
 case le=>exact Ad ZcZ (by exact HpLe.cons (Af rfl)<|HpLe.cons (Aj rfl)<|HpLe.cons (Af rfl)<|HpLe.cons (HC A0V)<|HpLe.nil)
 case round=>
  rintro P _ ⟨k,Z,E,C,rfl,M,G,b,rfl⟩
  have h:∀{r},BU (Sy G0) 8 o=r->Ul G0 l=(match r with | none=>none | some (V,J)=>some (⟨W,u,λi=>V.getD i default⟩,J)):=λ{r} b=>by
   unfold Ul;rw[Rd.some s,Rd.some g];unfold KZ Rd.bind;rw[b];cases r<;>rfl
  by_cases Q:k<8
  .have I:=S T E G
   refine Go ?_;refine AH [0] [] [] (I) (BK rfl) (λX=>(by repeat (first | exact AB (h (Do Q b X)) | apply As | apply PanQ.block | apply PanQ.loop):PanQ _ _) _) rfl rfl ZbH ZbG ZbN ZbE ZbJ trivial rfl ?_;rintro _ _ ⟨x,J,A,m,rfl,rfl⟩;refine Zfp ?_;refine Kc (ao rfl) (ao rfl) rfl (Aa rfl) (by first | exact Ev) (A0i Q) rfl ?_;refine Go ?_;refine Am (8-(k+1)) ZbK ⟨k+1,Z++[x],J,by omega,rfl,by simp[M],m,Dn Q b A,rfl⟩ ?_;exact Ad ZcZ (by refine HpLe.cons (Af rfl) ?_;refine HpLe.cons (Aj rfl) ?_;refine HpLe.cons (Af rfl) ?_;(refine HpLe.cons (OwLe.varD (by rw[Kn M];rfl)) ?_);exact HpLe.nil)
  .obtain rfl:k=8:=by omega
   refine Zfa ?_;exact⟨_,E,by rw[h b];simp[BU,BY],G,rfl,rfl⟩
theorem SK(r:Rsl)(B:RsW r):Wr 207 (AJ (SI r)) (Jr r):=Wr.intro λb F=>by
 have S:Jr r=FL r.l++FJ r.q++CX FJ r.r 8:=rfl;rw[S]at F ⊢;simp only[List.length_append]at F;have g:=Px r.l B.l b ZbK;have A:=KK r.q B.q (b++FL r.l) ZdC;refine Bp Tryz.func207 rfl (Ag Tryz.func207 ZbM ZbM) rfl λE G J=>?_;rw[Tryz.ntmps207];refine Zfk ?_;rintro _ _ ⟨rfl,rfl⟩;refine Kr ?_;refine Zfm ?_;rintro _ _ ⟨rfl,rfl⟩;refine Zfp ?_;refine Az (λP d=>∃k,k<=8/\P=8-k/\d=⟨[(0,.ptr 0 0),(15,.d (AJ (up8 r.r))),(16,.d (ex (.int .i64 (k:Nat))))],[.var 103 [.own 1],.row 5 1 (CE (b++FL r.l++FJ r.q++CX (FJ) r.r k)),.pin [(G,.own 0)]]⟩) ?le ⟨0,by omega,rfl,rfl⟩ ?round
 case le=>exact Ad Zcm Zco
 case round=>
  rintro P _ ⟨k,C,rfl,rfl⟩;by_cases Q:k<8
  .have C:=Fh (FJ) r.r Q
   have I:=KK (r.r k) (B.r k Q) (b++FL r.l++FJ r.q++CX (FJ) r.r k) ZbP;refine Go ?_;refine Wq (KC (ao rfl) (ao rfl) (Aa rfl) (Aa rfl) rfl Q (XX Q)) ?_;refine Zgf ?_;exact Zht
  .obtain rfl:k=8:=by omega
   refine Go ?_
   first | refine Be RetsA.none rfl ?_ rfl | refine AE RetsA.none rfl ?_ rfl
   exact⟨rfl,by rw[List.append_assoc,List.append_assoc,List.append_assoc];rfl⟩
theorem YY(k:Cor)(h:CoW k):Wr 53 (AJ (Fm k)) (FP k):=Wr.intro λb F=>by
 simp only[FP,List.length_append]at F;have g:=ER k.n h.n (b) ZbP;have A:=Iq k.e h.e (b++Bc k.n) ZbP;have B:=Iq k.f h.f (b++Bc k.n++AN k.e) ZbP;refine Bp Tryz.func53 rfl (Ag Tryz.func53 ZbM ZbM) rfl λC r I=>?_;rw[Tryz.ntmps53];refine Zfk ?_;rintro _ _ ⟨rfl,rfl⟩;refine Kr ?_;refine AW (σ':=⟨[(0,.ptr 0 0),(3,.ptr 3 0)],[.var 103 [.own 1],.row 5 1 (CE (b++Bc k.n)),.pin [(r,.own 0)],.var 26 ((Fm k).map .d)]⟩) ?_ ?_
 .exact Zjd
 refine Zfm ?_;rintro _ _ ⟨rfl,rfl⟩;refine Kr ?_;refine AW (σ':=⟨[(0,.ptr 0 0),(3,.ptr 3 0)],[.var 103 [.own 1],.row 5 1 (CE (b++Bc k.n++AN k.e)),.pin [(r,.own 0)],.var 26 ((Fm k).map .d)]⟩) ?_ ?_
 .exact Zjd
 refine ZfB ?_;rintro _ _ ⟨rfl,rfl⟩;refine Kr ?_;refine AW (σ':=⟨[(0,.ptr 0 0),(3,.ptr 3 0)],[.var 103 [.own 1],.row 5 1 (CE (b++Bc k.n++AN k.e++AN k.f)),.pin [(r,.own 0)],.var 26 ((Fm k).map .d)]⟩) ?_ ?_
 .exact Zjd
 apply AWl.nil
 first | refine Be RetsA.none rfl ?_ rfl | refine AE RetsA.none rfl ?_ rfl
 exact⟨rfl,by simp only[FP,List.append_assoc];rfl⟩
theorem A2b(c:Clm)(h:ClW c):Wr 111 (AJ (El c)) (IS c):=Wr.intro λb F=>by
 simp only[IS,List.length_append]at F;have g:=ER c.kind h.kind (b) ZbP;have A:=On c.p h.p (b++Bc c.kind) ZbP;have B:=ER c.n h.n (b++Bc c.kind++Cr c.p) ZbP;have L:=ER c.d h.d (b++Bc c.kind++Cr c.p++Bc c.n) ZbP;have V:=ER c.r h.r (b++Bc c.kind++Cr c.p++Bc c.n++Bc c.d) ZbP;have m:=Pt c.o h.o (b++Bc c.kind++Cr c.p++Bc c.n++Bc c.d++Bc c.r) ZbP;have z:=Iq c.l h.l (b++Bc c.kind++Cr c.p++Bc c.n++Bc c.d++Bc c.r++Cg c.o) ZbP;have d:=A6t c.s h.s (b++Bc c.kind++Cr c.p++Bc c.n++Bc c.d++Bc c.r++Cg c.o++AN c.l) ZbP;have u:=Vk c.b h.b (b++Bc c.kind++Cr c.p++Bc c.n++Bc c.d++Bc c.r++Cg c.o++AN c.l++Bn Bc c.s) ZbP;refine Bp Tryz.func111 rfl (Ag Tryz.func111 ZbM ZbM) rfl λC r I=>?_;rw[Tryz.ntmps111];refine Zfk ?_;rintro _ _ ⟨rfl,rfl⟩;refine Kr ?_;refine AW (σ':=⟨[(0,.ptr 0 0),(3,.ptr 3 0)],[.var 103 [.own 1],.row 5 1 (CE (b++Bc c.kind)),.pin [(r,.own 0)],.var 34 ((El c).map .d)]⟩) ?_ ?_
 .exact Zjd
 refine Zfm ?_;rintro _ _ ⟨rfl,rfl⟩;refine Kr ?_;refine AW (σ':=⟨[(0,.ptr 0 0),(3,.ptr 3 0)],[.var 103 [.own 1],.row 5 1 (CE (b++Bc c.kind++Cr c.p)),.pin [(r,.own 0)],.var 34 ((El c).map .d)]⟩) ?_ ?_
 .exact Zjd
 refine ZfB ?_;rintro _ _ ⟨rfl,rfl⟩;refine Kr ?_;refine AW (σ':=⟨[(0,.ptr 0 0),(3,.ptr 3 0)],[.var 103 [.own 1],.row 5 1 (CE (b++Bc c.kind++Cr c.p++Bc c.n)),.pin [(r,.own 0)],.var 34 ((El c).map .d)]⟩) ?_ ?_
 .exact Zjd
 refine Go ?_;refine AD [0,1] [] [] (L) ZbF rfl rfl ZbH ZbG ZbN ZbE ZbJ trivial rfl ?_;rintro _ _ ⟨rfl,rfl⟩;refine Kr ?_;refine AW (σ':=⟨[(0,.ptr 0 0),(3,.ptr 3 0)],[.var 103 [.own 1],.row 5 1 (CE (b++Bc c.kind++Cr c.p++Bc c.n++Bc c.d)),.pin [(r,.own 0)],.var 34 ((El c).map .d)]⟩) ?_ ?_
 .exact Zjd
 refine Go ?_;refine AD [0,1] [] [] (V) ZbF rfl rfl ZbH ZbG ZbN ZbE ZbJ trivial rfl ?_;rintro _ _ ⟨rfl,rfl⟩;refine Kr ?_;refine AW (σ':=⟨[(0,.ptr 0 0),(3,.ptr 3 0)],[.var 103 [.own 1],.row 5 1 (CE (b++Bc c.kind++Cr c.p++Bc c.n++Bc c.d++Bc c.r)),.pin [(r,.own 0)],.var 34 ((El c).map .d)]⟩) ?_ ?_
 .exact Zjd
 refine Go ?_;refine AD [0,1] [] [] (m) ZbF rfl rfl ZbH ZbG ZbN ZbE ZbJ trivial rfl ?_;rintro _ _ ⟨rfl,rfl⟩;refine Kr ?_;refine AW (σ':=⟨[(0,.ptr 0 0),(3,.ptr 3 0)],[.var 103 [.own 1],.row 5 1 (CE (b++Bc c.kind++Cr c.p++Bc c.n++Bc c.d++Bc c.r++Cg c.o)),.pin [(r,.own 0)],.var 34 ((El c).map .d)]⟩) ?_ ?_
 .exact Zjd
 refine Go ?_;refine AD [0,1] [] [] (z) ZbF rfl rfl ZbH ZbG ZbN ZbE ZbJ trivial rfl ?_;rintro _ _ ⟨rfl,rfl⟩;refine Kr ?_;refine AW (σ':=⟨[(0,.ptr 0 0),(3,.ptr 3 0)],[.var 103 [.own 1],.row 5 1 (CE (b++Bc c.kind++Cr c.p++Bc c.n++Bc c.d++Bc c.r++Cg c.o++AN c.l)),.pin [(r,.own 0)],.var 34 ((El c).map .d)]⟩) ?_ ?_
 .exact Zjd
 refine ZfI ?_;refine AD [0,1] [] [] (d) ZbF rfl rfl ZbH ZbG ZbN ZbE ZbJ trivial rfl ?_;rintro _ _ ⟨rfl,rfl⟩;refine Kr ?_;refine AW (σ':=⟨[(0,.ptr 0 0),(3,.ptr 3 0)],[.var 103 [.own 1],.row 5 1 (CE (b++Bc c.kind++Cr c.p++Bc c.n++Bc c.d++Bc c.r++Cg c.o++AN c.l++Bn Bc c.s)),.pin [(r,.own 0)],.var 34 ((El c).map .d)]⟩) ?_ ?_
 .exact Zjd
 refine Go ?_;refine AD [0,1] [] [] (u) ZbF rfl rfl ZbH ZbG ZbN ZbE ZbJ trivial rfl ?_;rintro _ _ ⟨rfl,rfl⟩;refine Kr ?_;refine AW (σ':=⟨[(0,.ptr 0 0),(3,.ptr 3 0)],[.var 103 [.own 1],.row 5 1 (CE (b++Bc c.kind++Cr c.p++Bc c.n++Bc c.d++Bc c.r++Cg c.o++AN c.l++Bn Bc c.s++EL c.b)),.pin [(r,.own 0)],.var 34 ((El c).map .d)]⟩) ?_ ?_
 .exact Zjd
 apply AWl.nil
 first | refine Be RetsA.none rfl ?_ rfl | refine AE RetsA.none rfl ?_ rfl
 exact⟨rfl,by simp only[IS,List.append_assoc];rfl⟩
theorem A46(e:Crt)(h:CrW e):Wr 112 (AJ (Ek e)) (Li e):=Wr.intro λb F=>by
 simp only[Li,List.length_append]at F;have g:=ER e.n h.n (b) ZbP;have A:=Iq e.cof h.cof (b++Bc e.n) ZbP;have B:=Iq e.g h.g (b++Bc e.n++AN e.cof) ZbP;have L:=Pt e.o h.o (b++Bc e.n++AN e.cof++AN e.g) ZbP;have V:=MA e.c h.c (b++Bc e.n++AN e.cof++AN e.g++Cg e.o) ZbP;have m:=MA e.q h.q (b++Bc e.n++AN e.cof++AN e.g++Cg e.o++BC e.c) ZbP;have z:=MA e.s h.s (b++Bc e.n++AN e.cof++AN e.g++Cg e.o++BC e.c++BC e.q) ZbP;have d:=SK e.r h.r (b++Bc e.n++AN e.cof++AN e.g++Cg e.o++BC e.c++BC e.q++BC e.s) ZbP;have u:=A7g e.a h.a (b++Bc e.n++AN e.cof++AN e.g++Cg e.o++BC e.c++BC e.q++BC e.s++Jr e.r) ZbP;have E:=A7e e.sq h.sq (b++Bc e.n++AN e.cof++AN e.g++Cg e.o++BC e.c++BC e.q++BC e.s++Jr e.r++Bn FX e.a) ZbP;have Q:=A7f e.x h.x (b++Bc e.n++AN e.cof++AN e.g++Cg e.o++BC e.c++BC e.q++BC e.s++Jr e.r++Bn FX e.a++Bn Jk e.sq) ZbP;have G:=Vk e.b h.b (b++Bc e.n++AN e.cof++AN e.g++Cg e.o++BC e.c++BC e.q++BC e.s++Jr e.r++Bn FX e.a++Bn Jk e.sq++Bn Om e.x) ZbP;refine Bp Tryz.func112 rfl (Ag Tryz.func112 ZbM ZbM) rfl λC r I=>?_;rw[Tryz.ntmps112];refine Zfk ?_;rintro _ _ ⟨rfl,rfl⟩;refine Kr ?_;refine AW (σ':=⟨[(0,.ptr 0 0),(3,.ptr 3 0)],[.var 103 [.own 1],.row 5 1 (CE (b++Bc e.n)),.pin [(r,.own 0)],.var 46 ((Ek e).map .d)]⟩) ?_ ?_
 .exact Zjd
 refine Zfm ?_;rintro _ _ ⟨rfl,rfl⟩;refine Kr ?_;refine AW (σ':=⟨[(0,.ptr 0 0),(3,.ptr 3 0)],[.var 103 [.own 1],.row 5 1 (CE (b++Bc e.n++AN e.cof)),.pin [(r,.own 0)],.var 46 ((Ek e).map .d)]⟩) ?_ ?_
 .exact Zjd
 refine ZfB ?_;rintro _ _ ⟨rfl,rfl⟩;refine Kr ?_;refine AW (σ':=⟨[(0,.ptr 0 0),(3,.ptr 3 0)],[.var 103 [.own 1],.row 5 1 (CE (b++Bc e.n++AN e.cof++AN e.g)),.pin [(r,.own 0)],.var 46 ((Ek e).map .d)]⟩) ?_ ?_
 .exact Zjd
 refine Go ?_;refine AD [0,1] [] [] (L) ZbF rfl rfl ZbH ZbG ZbN ZbE ZbJ trivial rfl ?_;rintro _ _ ⟨rfl,rfl⟩;refine Kr ?_;refine AW (σ':=⟨[(0,.ptr 0 0),(3,.ptr 3 0)],[.var 103 [.own 1],.row 5 1 (CE (b++Bc e.n++AN e.cof++AN e.g++Cg e.o)),.pin [(r,.own 0)],.var 46 ((Ek e).map .d)]⟩) ?_ ?_
 .exact Zjd
 refine Go ?_;refine AD [0,1] [] [] (V) ZbF rfl rfl ZbH ZbG ZbN ZbE ZbJ trivial rfl ?_;rintro _ _ ⟨rfl,rfl⟩;refine Kr ?_;refine AW (σ':=⟨[(0,.ptr 0 0),(3,.ptr 3 0)],[.var 103 [.own 1],.row 5 1 (CE (b++Bc e.n++AN e.cof++AN e.g++Cg e.o++BC e.c)),.pin [(r,.own 0)],.var 46 ((Ek e).map .d)]⟩) ?_ ?_
 .exact Zjd
 refine Go ?_;refine AD [0,1] [] [] (m) ZbF rfl rfl ZbH ZbG ZbN ZbE ZbJ trivial rfl ?_;rintro _ _ ⟨rfl,rfl⟩;refine Kr ?_;refine AW (σ':=⟨[(0,.ptr 0 0),(3,.ptr 3 0)],[.var 103 [.own 1],.row 5 1 (CE (b++Bc e.n++AN e.cof++AN e.g++Cg e.o++BC e.c++BC e.q)),.pin [(r,.own 0)],.var 46 ((Ek e).map .d)]⟩) ?_ ?_
 .exact Zjd
 refine Go ?_;refine AD [0,1] [] [] (z) ZbF rfl rfl ZbH ZbG ZbN ZbE ZbJ trivial rfl ?_;rintro _ _ ⟨rfl,rfl⟩;refine Kr ?_;refine AW (σ':=⟨[(0,.ptr 0 0),(3,.ptr 3 0)],[.var 103 [.own 1],.row 5 1 (CE (b++Bc e.n++AN e.cof++AN e.g++Cg e.o++BC e.c++BC e.q++BC e.s)),.pin [(r,.own 0)],.var 46 ((Ek e).map .d)]⟩) ?_ ?_
 .exact Zjd
 refine Go ?_;refine AD [0,1] [] [] (d) ZbF rfl rfl ZbH ZbG ZbN ZbE ZbJ trivial rfl ?_;rintro _ _ ⟨rfl,rfl⟩;refine Kr ?_;refine AW (σ':=⟨[(0,.ptr 0 0),(3,.ptr 3 0)],[.var 103 [.own 1],.row 5 1 (CE (b++Bc e.n++AN e.cof++AN e.g++Cg e.o++BC e.c++BC e.q++BC e.s++Jr e.r)),.pin [(r,.own 0)],.var 46 ((Ek e).map .d)]⟩) ?_ ?_
 .exact Zjd
 refine ZfI ?_;refine AD [0,1] [] [] (u) ZbF rfl rfl ZbH ZbG ZbN ZbE ZbJ trivial rfl ?_;rintro _ _ ⟨rfl,rfl⟩;refine Kr ?_;refine AW (σ':=⟨[(0,.ptr 0 0),(3,.ptr 3 0)],[.var 103 [.own 1],.row 5 1 (CE (b++Bc e.n++AN e.cof++AN e.g++Cg e.o++BC e.c++BC e.q++BC e.s++Jr e.r++Bn FX e.a)),.pin [(r,.own 0)],.var 46 ((Ek e).map .d)]⟩) ?_ ?_
 .exact Zjd
 refine ZfI ?_;refine AD [0,1] [] [] (E) ZbF rfl rfl ZbH ZbG ZbN ZbE ZbJ trivial rfl ?_;rintro _ _ ⟨rfl,rfl⟩;refine Kr ?_;refine AW (σ':=⟨[(0,.ptr 0 0),(3,.ptr 3 0)],[.var 103 [.own 1],.row 5 1 (CE (b++Bc e.n++AN e.cof++AN e.g++Cg e.o++BC e.c++BC e.q++BC e.s++Jr e.r++Bn FX e.a++Bn Jk e.sq)),.pin [(r,.own 0)],.var 46 ((Ek e).map .d)]⟩) ?_ ?_
 .exact Zjd
 refine ZfI ?_;refine AD [0,1] [] [] (Q) ZbF rfl rfl ZbH ZbG ZbN ZbE ZbJ trivial rfl ?_;rintro _ _ ⟨rfl,rfl⟩;refine Kr ?_;refine AW (σ':=⟨[(0,.ptr 0 0),(3,.ptr 3 0)],[.var 103 [.own 1],.row 5 1 (CE (b++Bc e.n++AN e.cof++AN e.g++Cg e.o++BC e.c++BC e.q++BC e.s++Jr e.r++Bn FX e.a++Bn Jk e.sq++Bn Om e.x)),.pin [(r,.own 0)],.var 46 ((Ek e).map .d)]⟩) ?_ ?_
 .exact Zjd
 refine Go ?_;refine AD [0,1] [] [] (G) ZbF rfl rfl ZbH ZbG ZbN ZbE ZbJ trivial rfl ?_;rintro _ _ ⟨rfl,rfl⟩;refine Kr ?_;refine AW (σ':=⟨[(0,.ptr 0 0),(3,.ptr 3 0)],[.var 103 [.own 1],.row 5 1 (CE (b++Bc e.n++AN e.cof++AN e.g++Cg e.o++BC e.c++BC e.q++BC e.s++Jr e.r++Bn FX e.a++Bn Jk e.sq++Bn Om e.x++EL e.b)),.pin [(r,.own 0)],.var 46 ((Ek e).map .d)]⟩) ?_ ?_
 .exact Zjd
 apply AWl.nil
 first | refine Be RetsA.none rfl ?_ rfl | refine AE RetsA.none rfl ?_ rfl
 exact⟨rfl,by simp only[Li,List.append_assoc];rfl⟩
theorem A3Q(f:Fct)(h:FW f):Wr 48 (AJ (Fa f)) (FO f):=Wr.intro λb F=>by
 simp only[FO,List.length_append]at F;have g:=YY f.k h.k (b) ZbP;have A:=A2b f.c h.c (b++FP f.k) ZbP;have B:=A46 f.e h.e (b++FP f.k++IS f.c) ZbP;refine Bp Tryz.func48 rfl (Ag Tryz.func48 ZbM ZbM) rfl λC r I=>?_;rw[Tryz.ntmps48];refine Zfk ?_;rintro _ _ ⟨rfl,rfl⟩;refine Kr ?_;refine AW (σ':=⟨[(0,.ptr 0 0),(3,.ptr 3 0)],[.var 103 [.own 1],.row 5 1 (CE (b++FP f.k)),.pin [(r,.own 0)],.var 48 ((Fa f).map .d)]⟩) ?_ ?_
 .exact Zjd
 refine Zfm ?_;rintro _ _ ⟨rfl,rfl⟩;refine Kr ?_;refine AW (σ':=⟨[(0,.ptr 0 0),(3,.ptr 3 0)],[.var 103 [.own 1],.row 5 1 (CE (b++FP f.k++IS f.c)),.pin [(r,.own 0)],.var 48 ((Fa f).map .d)]⟩) ?_ ?_
 .exact Zjd
 refine ZfB ?_;rintro _ _ ⟨rfl,rfl⟩;refine Kr ?_;refine AW (σ':=⟨[(0,.ptr 0 0),(3,.ptr 3 0)],[.var 103 [.own 1],.row 5 1 (CE (b++FP f.k++IS f.c++Li f.e)),.pin [(r,.own 0)],.var 48 ((Fa f).map .d)]⟩) ?_ ?_
 .exact Zjd
 apply AWl.nil
 first | refine Be RetsA.none rfl ?_ rfl | refine AE RetsA.none rfl ?_ rfl
 exact⟨rfl,by simp only[FO,List.append_assoc];rfl⟩
structure WC(g:Nat)(s s':GS):Prop where
 S:s'.S=s.S
 blk:∀b,b≠g->s'.w.heap[b]? = s.w.heap[b]?
 ty:∃cs fz,s.w.heap[g]? = some (.cells cs 335 fz)/\∀(k:Nat) u,cs[k]? = some u->∃x,u=.int .u32 x
def NW(x:D):Prop:=∀(g:Nat) (s j:GS) (v:Value),WC g s j->x.rel s v->x.rel j v
theorem A61(u:Value):NW (ex u):=λ_ _ _ _ _ h=>h
theorem A3V{R:List D}(h:n<R.length):Dd R n∈R:=by
 have:Dd R n=R[n]:=by simp[Dd,h]
 rw[this];exact List.getElem_mem h
theorem Lies.nwB{b o:Nat}(I:WC n s vq)(h:Lies s b o t [ex (.int .u8 i)]):Lies vq b o t [ex (.int .u8 i)]:=by
 obtain⟨a,K,A,B⟩:=h;obtain⟨L,u,V,m,z⟩:=B 0 ZbV;have z:u=_:=z
 have F:b≠n:=λe=>by
  subst e;obtain⟨P,J,d,G⟩:=I.ty;rw[A]at d;have:=Option.some.inj d;simp only[Obj.cells.injEq]at this;obtain⟨x,E⟩:=G (o+0) u (by rw[<-this.1];exact V);rw[z]at E;cases E
 refine⟨a,K,(I.blk b F).trans A,λk C=>?_⟩;obtain rfl:k=0:=by simp at C;omega
 exact⟨by rw[I.S];exact L,u,V,m,z⟩
theorem A71{b:List Nat}:NW (FR t b):=λg s j v I ⟨A, c, B, C, L, V⟩=>⟨A, c, B, C, L, λF=>by
 obtain⟨r,o,m,G⟩:=V F;refine⟨r,o,m,λk E=>⟨(G k E).1,?_⟩⟩
 obtain⟨z,J⟩:∃z:Nat,(CE b).getD k []=[ex (.int .u8 (z:Nat))]:=by
  have K:k<b.length:=by rw[CG]at E;exact E
  refine⟨b[k],?_⟩;rw[List.getD_eq_getElem?_getD,List.getElem?_eq_getElem E];simp[CE]
 have d:=(G k E).2;rw[J]at d ⊢;exact d.nwB I⟩
theorem A60:NW (Fb t [ex (.int .u8 i)]):=λg s j v I ⟨b,o,A,B⟩=>⟨b,o,A,B.nwB I⟩
def wL(l:List Nat):List Value:=l.map λw=>.int .u32 (w:Nat)
structure WRel(base:Nat)(l:List Nat)(s:GS)(v:Value):Prop where
 own:s.w.ownsRow base 335 1 v l.length (wL l)
 sm:BD l
 set:∀b,Dg v=some b->∀k,s.S b k
 al:∀b cs fz,Dg v=some b->s.w.heap[b]? = some (.cells cs 335 fz)->∀(k:Nat) u,cs[k]? = some u->∃x,u=.int .u32 x
theorem WRel.cases{base:Nat}{l:List Nat}{v:Value}(h:WRel base l s v):(v=.slice none 0 0/\l=[])\/∃g cap O,v=.slice (some ⟨g,0,none⟩) l.length cap/\base<=g/\s.w.heap[g]? = some (.cells O 335 (0,0))/\l.length<=cap/\cap<=maxLen/\O.size=cap/\O.toList.take l.length=wL l:=by
 rcases h.own.2 with⟨c,A⟩ | ⟨g,cap,O,c,A,e3,e4,e5,e6,e7⟩
 .exact .inl ⟨c,List.eq_nil_of_length_eq_zero A⟩
 .exact .inr ⟨g,cap,O,c,A,e3,e4,e5,by omega,by rwa [Nat.mul_one]at e7⟩
theorem WRel.lt{l:List Nat}{v:Value}(h:WRel n l s v){b:Nat}(F:Dg v=some b):b<s.w.heap.size/\n<=b/\∃a K,s.w.heap[b]? = some (.cells a 335 K):=by
 rcases h.cases with⟨c,_⟩ | ⟨g,cap,cur,c,e2,e3,_⟩
 .rw [c]at F;cases F
 .rw [c]at F;cases F;exact⟨Bm e3,e2,_,_,e3⟩
theorem WRel.keep{l:List Nat}{v:Value}(h:WRel n l s v)(F:∀b,Dg v=some b->vq.w.heap[b]? = s.w.heap[b]? /\ ∀k,vq.S b k↔s.S b k):WRel n l vq v:=by
 refine⟨⟨h.own.1,?_⟩,h.sm,λb A k=>((F b A).2 k).2 (h.set b A k),λb a K A B=>h.al b a K A ((F b A).1.symm.trans B)⟩;rcases h.own.2 with A | ⟨g,cap,cur,e1,e2,e3,e4⟩
 .exact .inl A
 .exact Zje
def WOV(base:Nat)(v:Value)(l:List Nat):OD:=⟨λs _=>WRel base l s v,λ_ _ b=>Dg v=some b,λh F=>(WRel.lt h F).1,λh _ F=>⟨WRel.keep h F,λ_ h=>h⟩⟩
def Xh(base:Nat)(l:List Nat):OD:=⟨λs v=>WRel base l s v,λ_ v b=>Dg v=some b,λh F=>(WRel.lt h F).1,λh _ F=>⟨WRel.keep h F,λ_ h=>h⟩⟩
theorem WRel.wD{l:List Nat}{v:Value}(h:WRel n l s v):(Go.Proofs.YtcikkglcoeedlaaGreat.wD l).rel s v:=by
 refine⟨?_,h.sm⟩;rcases h.cases with⟨c,F⟩ | ⟨g,cap,cur,c,F,e3,e4,e5,e6,e7⟩
 .subst F;rw[c];exact slD.nil _ _ _
 .refine ⟨_, cap, by rw [List.length_map]; exact c, by rw [List.length_map]; exact e4, by simpa [maxLen] using e5, λE=>⟨g, 0, rfl, λk C=>?_⟩⟩
  rw[List.length_map]at C;have e:(l.map λx=>[ex (.int .u32 (x:Nat))]).getD k []=[ex (.int .u32 (l[k]:Nat))]:=by simp[C]
  rw[e];refine⟨rfl,cur,(0,0),e3,λj B=>?_⟩;obtain rfl:j=0:=by simp at B;omega
  refine⟨h.set g (by rw[c];rfl) _,.int .u32 (l[k]:Nat),?_,rfl,rfl⟩;have A:(cur.toList.take l.length)[k]? = (wL l)[k]?:=by rw[e7]
  rw[List.getElem?_take,if_pos C]at A;rw[Nat.zero_add,Nat.mul_one,Nat.add_zero,<-Array.getElem?_toList,A];simp[wL,C]
theorem WOV.nil(base:Nat)(s:GS):WRel base [] s (.slice none 0 0):=⟨⟨rfl,.inl ⟨rfl,rfl⟩⟩,(λx E=>by cases E),λb F=>(by cases F),λb a K F=>by cases F⟩
theorem Zk{s0:An}(xb:GS.LeX s0.mine s0.g s)(H:s.Ok){t ty bytes base:Nat}(J:P.underlying t=some (.slice 335))(q:Tab P 335 d 1 bytes z)(xp:z=.int .u32 0){l:List Nat}(p:WRel base l s v)(xA:s0.g.w.heap.size<=base)(xi:base<=s0.g.w.heap.size)
  (b o c x:Nat) (E:x<4294967296) (xm:s.w.cell? ⟨b,o,none⟩=some (.int .u32 (x:Nat))) (xj:(l.length+1)*bytes<=140737488355328) (xo:l.length+1<=4611686018427387904) :
  ∃(n:Value) (N:GS),(Builtin.append_ #[t,t] ty #[v,.slice (some ⟨b,o,none⟩) 1 c]).run P s.w=.ok n N.w/\GS.LeX s0.mine s0.g N/\N.Ok/\(GS.Le s N\/∃g,Dg v=some g/\WC g s N)/\WRel base (l++[x]) N n/\(∀b,Dg n=some b->Dg v=some b\/s.w.heap.size<=b):=by
 obtain⟨i,M,Z,xt,xv⟩:=q.info;subst xv;have xr:z.cells.size=1:=by rw[xp];rfl
 have xJ:∀(m k:Nat) u,(Builtin.zeroCells z.cells m)[k]? = some u->∃x,u=.int .u32 x:=λm k u f=>by
  have f:=Array.mem_of_getElem? f;rw[xp,Builtin.zeroCells]at f;simp[Value.cells]at f;exact⟨0,by grind⟩
 have xN:∀(k:Nat) u,(wL l)[k]? = some u->∃x,u=.int .u32 x:=λk u f=>by
  obtain⟨y,_,O⟩:=List.mem_map.1 (List.mem_of_getElem? f);exact⟨_,O.symm⟩
 have xM:∀(k:Nat) u,([.int .u32 ((x:Nat):Int)]:List Value)[k]? = some u->∃x,u=.int .u32 x:=λk u f=>⟨_,List.mem_singleton.1 (List.mem_of_getElem? f)⟩;obtain⟨xd,xs⟩:∃xd:List Value,xd=[.int .u32 (x:Nat)]:=⟨_,rfl⟩;have K:xd.length=1*i.size:=by rw[xs,xt];rfl
 have xB:∀j u,xd[j]? = some u->s.w.cell? ((⟨b,o,none⟩:Addr).add j)=some u:=λj u I=>by
  rw[xs]at I
  match j,I with
  |0,I=>cases I;exact xm
  |j+1,I=>cases I
 have A:∀u∈xd,u.oneCell'=true:=λu f=>by rw[xs]at f;rw[List.mem_singleton.1 f];rfl
 have xI:wL (l++[x])=wL l++xd:=by rw[xs,wL,List.map_append];rfl
 have T:(wL l).length=l.length:=by simp[wL]
 have xx:(l++[x]).length=l.length+1:=by simp
 have xD:BD (l++[x]):=λy O=>by
  rcases List.mem_append.1 O with h | h
  .exact p.sm y h
  .rw [List.mem_singleton.1 h];exact E
 have xH:s0.g.w.heap.size<=s.w.heap.size:=xb.size;have xz:l.length+1<=maxLen:=by simp only[maxLen];omega
 have xE:∀xu,xu<l.length+1->base<=s.w.heap.size->∃N:GS,N.w=s.w.drew.alloc (.cells ((wL l).toArray++xd.toArray++Builtin.zeroCells z.cells (grownCap s.w (l.length+1) xu 335-(l.length+1))) 335)/\GS.LeX s0.mine s0.g N/\N.Ok/\GS.Le s N/\WRel base (l++[x]) N (.slice (some ⟨s.w.heap.size,0,none⟩) (l.length+1) (grownCap s.w (l.length+1) xu 335)):=by
  intro xu R xg;obtain⟨arr,xq⟩:∃arr,arr=(wL l).toArray++xd.toArray++Builtin.zeroCells z.cells (grownCap s.w (l.length+1) xu 335-(l.length+1)):=⟨_,rfl⟩;rw[<-xq];have xk:=grownCap_ge s.w (l.length+1) xu 335;have xw:grownCap s.w (l.length+1) xu 335<=maxLen:=grownCap_le_maxLen s.w (l.length+1) xu 335 xz;have S:Ext s.w (s.w.drew.alloc (.cells arr 335)):=(Ext.refl _).drew.alloc _;have xF:(s.w.drew.alloc (.cells arr 335)).heap[s.w.heap.size]? = some (.cells arr 335 (0,0)):=heap_alloc_new s.w.drew _;have w:(s.w.drew.alloc (.cells arr 335)).heap.size=s.w.heap.size+1:=Array.size_push ..;have xa:=EM (s:=s) S;refine⟨s.grown (s.w.drew.alloc (.cells arr 335)),rfl,xb.trans xa,xa.ok H,xa,⟨⟨by rw[xx];simp[wL],.inr ⟨s.w.heap.size,_,arr,by rw[xx],xg,xF,by rw[xx];exact xk,xw,?_,?_⟩⟩,xD,λb F k=>?_,λb a fz F A k u f=>?_⟩⟩
  .rw [xq]
   simp only[Array.size_append,List.size_toArray,size_zeroCells,xr,T,K,xt];omega
  .rw [xq,xI]
   simp only[Array.toList_append];have:(wL l++xd).length=(l++[x]).length*1:=by rw[List.length_append,T,K,xt,xx];omega
   rw[<-this];exact List.take_left
  .have xc:some s.w.heap.size=some b:=F
   have xc:=Option.some.inj xc;subst xc;exact .inr ⟨Nat.le_refl _,by rw[w];omega⟩
  .have xc:some s.w.heap.size=some b:=F
   have xc:=Option.some.inj xc;subst xc;have A:(s.w.drew.alloc (.cells arr 335)).heap[s.w.heap.size]? = _:=A;rw[xF]at A;have:=Option.some.inj A;simp only[Obj.cells.injEq]at this;rw[<-this.1,xq]at f;rw[Array.getElem?_append]at f;split at f
   .rw [Array.getElem?_append]at f
    split at f
    .rw [List.getElem?_toArray]at f
     exact xN _ u f
    .rw [List.getElem?_toArray,xs]at f
     exact xM _ u f
   .exact xJ _ _ u f
 have xg:base<=s.w.heap.size:=by omega
 rcases p.cases with⟨rfl,rfl⟩ | ⟨g,cap,xn,rfl,hbg,hg,hnc,xw,hcs,htake⟩
 .have B:=run_append_nil (P:=P) s.w t ty 335 i z J M Z ⟨b, o, none⟩ 1 c xd K xB ZbK ZbK (by have F:=xj; simp only [List.length_nil, Nat.zero_add, Nat.one_mul] at F ⊢; omega)
  obtain⟨N,G,Y,e3,e4,e5⟩:=xE 0 ZbK xg;simp only[List.length_nil,Nat.zero_add,List.nil_append,Array.empty_append,wL,List.map_nil]at G e5 B ⊢;exact ZgA
 .have xK:=p.al g xn (0,0) rfl hg
  by_cases xC:l.length+1<=cap
  .have xG:l.length*i.size+xd.length<=xn.size:=by rw [K, hcs, xt];omega
   have B:=run_append_room (P:=P) s.w t ty 335 i J M g l.length cap xn hg ⟨b,o,none⟩ 1 c xd K xB A xC xG;obtain⟨W,U⟩:∃W,W=s.w.setRow g (xn.toList.take (l.length*i.size)++xd++xn.toList.drop (l.length*i.size+xd.length)).toArray:=⟨_,rfl⟩;rw[<-U]at B;have xl:∀b,b≠g->W.heap[b]? = s.w.heap[b]?:=λb F=>by rw[U];exact setRow_other s.w g b _ (λe=>F e)
   have xF:W.heap[g]? = some (.cells (xn.toList.take (l.length*i.size)++xd++xn.toList.drop (l.length*i.size+xd.length)).toArray 335 (0,0)):=by rw[U];exact setRow_heap s.w g xn _ _ _ hg
   have w:W.heap.size=s.w.heap.size:=by rw[U];simp[World.setRow]
   have xf : GS.Ok ⟨s.S, s.tag, W⟩ := ⟨fun b k F => by show b < W.heap.size; rw [w]; exact H.lt b k F, fun b k ⟨a, fz, F⟩ => by
    have F:W.heap[b]? = _:=F;by_cases e:b=g
    .subst e;exact p.set b rfl k
    .exact H.safe b k ⟨a,fz,(xl b e).symm.trans F⟩⟩
   refine⟨_,⟨s.S,s.tag,W⟩,B,⟨by show W.os=_;rw[U];exact xb.os,by show W.tape=_;rw[U];exact xb.tape,by show W.output=_;rw[U];exact xb.output,λk C X=>(xl k ZbK).trans (xb.block k C X),⟨by show _<=W.heap.size;omega,xb.chg.up,λr a T' fz F=>?_⟩,xb.old,xb.tag,λ_=>xf⟩,xf,.inr ⟨g,rfl,rfl,xl,_,_,hg,xK⟩,⟨⟨by rw[xx];simp[wL],.inr ⟨g,cap,_,by rw[xx],hbg,xF,by rw[xx];exact xC,xw,?_,?_⟩⟩,xD,λb F k=>?_,λb a fz F A k u f=>?_⟩,λb F=>.inl F⟩
   .obtain ⟨xe,xy,G,Y⟩:=xb.chg.cell r a T' fz F
    have:=Bm F;exact⟨xe,xy,(xl r ZbK).trans G,Y⟩
   .simp only[List.size_toArray,List.length_append,List.length_take,List.length_drop,Array.length_toList]
    rw[xt]at xG ⊢;omega
   .have L:(l++[x]).length*1=(xn.toList.take (l.length*i.size)++xd).length:=by
     have V:xn.toList.length=xn.size:=Array.length_toList;have Q:(xn.toList.take (l.length*i.size)++xd).length=l.length+1:=by rw[List.length_append,List.length_take,K,xt];omega
     rw[Q,xx,Nat.mul_one]
    rw[L];show List.take _ (xn.toList.take (l.length*i.size)++xd++_)=_;rw[List.take_left,xI,xt,Nat.mul_one,htake]
   .have xc:some g=some b:=F
    have xc:=Option.some.inj xc;subst xc;exact p.set g rfl k
   .have xc:some g=some b:=F
    have xc:=Option.some.inj xc;subst xc;have A:W.heap[g]? = _:=A;rw[xF]at A;have:=Option.some.inj A;simp only[Obj.cells.injEq]at this;rw[<-this.1,List.getElem?_toArray]at f;have f:=List.mem_of_getElem? f;rw[List.mem_append,List.mem_append]at f;rcases f with(f | f) | f
    .obtain ⟨k',xh⟩:=List.getElem?_of_mem (List.mem_of_mem_take f)
     exact Zjf
    .obtain ⟨k',xh⟩:=List.getElem?_of_mem f
     rw[xs]at xh;exact xM k' u xh
    .obtain ⟨k',xh⟩:=List.getElem?_of_mem (List.mem_of_mem_drop f)
     exact Zjf
  .have xL:∀j u,(wL l)[j]? = some u->s.w.cell? ((⟨g,0,none⟩:Addr).add j)=some u:=p.own.cells (g:=g) rfl
   have B:=run_append_grow (P:=P) s.w t ty 335 i z J M Z ⟨g,0,none⟩ l.length cap (wL l) (by rw[T,xt,Nat.mul_one]) xL ⟨b,o,none⟩ 1 c xd K xB ZbK ZbK (growslice_fits ZbK xj);obtain⟨N,G,Y,e3,e4,e5⟩:=xE cap ZbK xg;exact ZgA
def AV.nw(id:Nat):AV->Prop
 |.d x=>NW x
 |.ptr i _=>i≠id
 |.own i=>i≠id
 |.fn _ N=>id∉N
def Ow.nw(id:Nat):Ow->Prop
 |.dead=>True
 |.var _ cells=>∀U∈cells,U.nw id
 |.row _ _ y=>∀r∈y,∀d∈r,NW d
 |.obj _=>False
 |.pin l=>∀p∈l,p.2.nw id
theorem StI.words{s0:An}{id base:Nat}{l l':List Nat}(h:StI s0 n ⟨vf,H⟩ vj s vg)(xd:H[id]? = some (.obj (WOV base z l)))(hF:∀p∈vf,p.2.nw id)(hM:∀i o,i≠id->H[i]? = some o->o.nw id)(q1:GS.LeX s0.mine s0.g vq)(q2:vq.Ok)(q3:GS.Le s vq\/∃g,Dg z=some g/\WC g s vq)(q4:WRel base l' vq v)(q5:∀b,Dg v=some b->Dg z=some b\/s.w.heap.size<=b) :
  StI s0 n ⟨vf,H.set id (.obj (Xh base l'))⟩ vj vq (λi=>if i=id then v else vg i):=by
 have r:(H.set id (.obj (Xh base l'))).length=H.length:=by simp
 have xi:id<H.length:=Ca xd;have xo:WRel base l s z:=h.hp id _ xd
 have hA:∀U u,U.nw id->AVr H.length vg s U u->AVr H.length (λi=>if i=id then v else vg i) vq U u:=λU u N Y=>by
  cases U with
  |d x=>exact q3.elim (λk=>x.st Y k.chg) λ⟨g,_,k⟩=>N g s vq u k Y
  |ptr i off=>
   have N:i≠id:=N;obtain⟨A,b,B,L⟩:=Y;exact⟨A,b,(show(if i=id then v else vg i)=_ by rw[if_neg N];exact B),L⟩
  |own i=>
   have N:i≠id:=N;exact⟨Y.1,(show u=(if i=id then v else vg i)by rw[if_neg N];exact Y.2)⟩
  |fn f xa=>
   have N:id∉xa:=N;exact⟨Y.1,by rw[Y.2,List.map_congr_left λi M=>(if_neg λe=>N (by rw[<-e];exact M):(if i=id then v else vg i)=vg i)]⟩
 have hB:∀b,b<s.w.heap.size->(∀a fz,s.w.heap[b]? ≠ some (.cells a 335 fz))->vq.w.heap[b]? = s.w.heap[b]? /\ ∀k,vq.S b k↔s.S b k:=λb F P=>by
  rcases q3 with k | ⟨g,hg,k⟩
  .exact ⟨k.ext.block F,λj=>⟨k.old b j F,k.up b j⟩⟩
  .obtain ⟨a,fz,e,_⟩:=k.ty
   have xq:b≠g:=λe'=>P a fz (by rw[e'];exact e);exact⟨k.blk b xq,λj=>by rw[k.S]⟩
 have hO:∀i o,i≠id->H[i]? = some o->OwR 0 H.length (λi=>if i=id then v else vg i) vq i o:=λi o M R=>by
  have N:=hM i o M R;have I:=h.hp i o R
  cases o with
  |dead=>trivial
  |var T cells=>
   obtain⟨b,a,A,B,L,V,m,X,q⟩:=I
   obtain⟨c,S⟩:=hB b (Bm L) λxc xp e=>by
    rw[L]at e;have:=Option.some.inj e;simp only[Obj.cells.injEq]at this;exact m this.2.1
   refine⟨b,a,(show(if i=id then v else vg i)=_ by rw[if_neg M];exact A),B,c.trans L,V,m,λk C=>X k ((S k).1 C),λk U C=>?_⟩;obtain⟨u,w,h9,xb⟩:=q k U C;exact⟨u,w,h9,hA U u (N U (List.mem_of_getElem? C)) xb⟩
  |row T Q W=>
   obtain⟨Z,⟨A,B⟩,L,V,m,X⟩:=I
   have xj:∀b,Dg (vg i)=some b->vq.w.heap[b]? = s.w.heap[b]? /\ ∀k,vq.S b k↔s.S b k:=λb F=>by
    rcases B with⟨c,_⟩ | ⟨g,cap,cur,c,S,e3,e4⟩
    .rw [c]at F;cases F
    .rw [c]at F
     cases F
     exact hB g (Bm e3) λxc xp e=>by
      rw[e3]at e;have:=Option.some.inj e;simp only[Obj.cells.injEq]at this;exact L this.2.1
   refine⟨Z,⟨A,?_⟩,L,V,λb F k=>?_,λk C=>⟨(X k C).1,λj K=>?_⟩⟩
   .have xr:(λi=>if i=id then v else vg i) i=vg i:=if_neg M
    rw[xr];rcases B with B | ⟨g,cap,cur,c,S,e3,e4⟩
    .exact .inl B
    .exact .inr ⟨g,cap,cur,c,S,(xj g (by rw[c];rfl)).1.trans e3,e4⟩
   .have F:Dg (if i=id then v else vg i)=some b:=F
    rw[if_neg M]at F;exact((xj b F).2 k).trans (m b F k)
   .obtain ⟨u,w,h9,xb⟩:=(X k C).2 j K
    have xm:(W.getD k [])∈W:=by
     exact ZgK
    have xh:j<(W.getD k []).length:=by rw[(X k C).1];exact K
    exact⟨u,w,h9,hA (.d (Dd (W.getD k []) j)) u (N _ xm _ (A3V xh)) xb⟩
  |obj O=>exact N.elim
  |pin l=>exact λp H=>hA p.2 p.1 (N p H) (I p H)
 have xf:∀i o,(H.set id (.obj (Xh base l')))[i]? = some o->(i=id/\o=.obj (Xh base l'))\/(i≠id/\H[i]? = some o):=λi o R=>by
  rw[List.getElem?_set]at R;split at R
  .rename_i e
   try rw[if_pos ZbK]at R
   exact .inl ⟨e.symm,(Option.some.inj R).symm⟩
  .rename_i e
   exact .inr ⟨λe'=>e e'.symm,R⟩
 have xl:∀i o b,i≠id->H[i]? = some o->OwB vq (if i=id then v else vg i) o b->OwB s (vg i) o b:=λi o b M R F=>by
  rw[if_neg M]at F
  cases o with
  |obj O=>exact(hM i _ M R).elim
  |_=>exact F
 refine⟨q1,q2,λt U J=>?_,h.sz,h.df,λi o R=>?_,λi j x y xe E G b xk xg=>?_,λi o b R F=>?_⟩
 .rw [show(⟨vf,H.set id (.obj (Xh base l'))⟩:AS).hp.length=H.length from r]
  exact hA U _ (hF (t,U) (En J)) (h.fr t U J)
 .rw [show(⟨vf,H.set id (.obj (Xh base l'))⟩:AS).hp.length=H.length from r]
  rcases xf i o R with⟨rfl,rfl⟩ | ⟨M,R⟩
  .show WRel base l' vq (if i=i then v else vg i)
   rw[if_pos rfl];exact q4
  .exact hO i o M R
 .rcases xf i x E with⟨rfl,rfl⟩ | ⟨M,hx'⟩<;>rcases xf j y G with⟨rfl,rfl⟩ | ⟨K,hy'⟩
  .exact xe rfl
  .have xk:Dg (if i=i then v else vg i)=some b:=xk
   rw[if_pos rfl]at xk;have xn:=xl j y b K hy' xg;rcases q5 b xk with A | A
   .exact h.sep i j _ y xe xd hy' b A xn
   .have:=(h.hp j y hy').blk_lt0 xn
    omega
  .have xg:Dg (if j=j then v else vg j)=some b:=xg
   rw[if_pos rfl]at xg;have xn:=xl i x b M hx' xk;rcases q5 b xg with A | A
   .exact h.sep i j x _ xe hx' xd b xn A
   .have:=(h.hp i x hx').blk_lt0 xn
    omega
  .exact h.sep i j x y xe hx' hy' b (xl i x b M hx' xk) (xl j y b K hy' xg)
 .rcases xf i o R with⟨rfl,rfl⟩ | ⟨M,R⟩
  .have F:Dg (if i=i then v else vg i)=some b:=F
   rw[if_pos rfl]at F;rcases q5 b F with A | A
   .exact h.own i _ b xd A
   .exact .inr (Nat.le_trans h.le.size A)
  .exact h.own i o b R (xl i o b M R F)
theorem A0Y{s0:An}{o:Oper}{id base m bytes b0 x:Nat}{l:List Nat}{T g:Operand}(F:o.op=.call { callee:=.builtin .append,args:=#[T,g],argTypes:=#[t,t] })(h:StI s0 n ⟨vf,H⟩ vj s vg)(R:H[id]? = some (.obj (WOV base v l)))(hF:∀p∈vf,p.2.nw id)(W:∀i o,i≠id->H[i]? = some o->o.nw id)(xb:s0.g.w.heap.size<=base)(a:base<=s0.g.w.heap.size)(E:vj.eval T=v)(O:(slD U 1 [[ex (.int .u32 (x:Nat))]]).rel s (vj.eval g))(Z:x<4294967296)(J:Tab P t (.slice 335) m b0 z)(I:Tab P 335 d 1 bytes ue)(w:ue=.int .u32 0)(e:(l.length+1)*bytes<=140737488355328)(q:l.length+1<=4611686018427387904) :
  RegG.OpStep P o vj.eval s λu j=>∃y,StI s0 n ⟨vf,H.set id (.obj (Xh base (l++[x])))⟩ vj j y/\AVr H.length y j (.own id) u:=by
 obtain⟨A,c,C,G,K,V⟩:=O;obtain⟨b,p,rfl,Q⟩:=V ZbV;obtain⟨_,N⟩:=Q 0 ZbV;obtain⟨u,X,_,f⟩:=N.cell (k:=0) ZbV;have f:u=_:=f;subst f;obtain⟨S,j,B,M,L,Y,k,r⟩:=Zk (P:=P) (t:=t) (ty:=o.type) h.le h.ok J.und I w (h.hp id _ R) xb a b p c x Z (by simpa using X) e q
 have xa:(execOp vj.eval o).run P s.w=.ok (.value S) j.w:=by
  simp only[execOp,F,resolve,invoke,builtin,Sem.run_bind,Sem.run_pure,Result.andThen_ok,List.map_toArray,List.map_cons,List.map_nil,E,C];simp only[List.length_cons,List.length_nil,Nat.zero_add]at B ⊢;rw[B];rfl
 refine HN xa j rfl ⟨_,h.words R hF W M L Y k r,Ca R,(if_pos rfl).symm⟩
def AllNw(id c:Nat)(A:List Nat):Nat->List AV->Prop
 |_,[]=>True
 |i,r::M=>(Nat.beq i c=true\/A.contains i=true\/r.nw id)/\AllNw id c A (i+1) M
theorem AllNw.nil{id c i:Nat}{A:List Nat}:AllNw id c A i []:=trivial
theorem AllNw.c{id c i:Nat}{A:List Nat}{r:AV}(h:Nat.beq i c=true)(f:AllNw id c A (i+1) u):AllNw id c A i (r::u):=⟨.inl h,f⟩
theorem AllNw.l{id c i:Nat}{A:List Nat}{r:AV}(h:A.contains i=true)(f:AllNw id c A (i+1) u):AllNw id c A i (r::u):=⟨.inr (.inl h),f⟩
theorem AllNw.x{id c i:Nat}{A:List Nat}{v:Value}(f:AllNw id c A (i+1) u):AllNw id c A i (.d (ex v)::u):=⟨.inr (.inr (A61 v)),f⟩
theorem AllNw.b{id c i:Nat}{A:List Nat}{T:TypeId}{l:List Nat}(f:AllNw id c A (i+1) u):AllNw id c A i (.d (FR T l)::u):=⟨.inr (.inr A71),f⟩
theorem AllNw.e{id c i:Nat}{A:List Nat}{z:Int}(f:AllNw id c A (i+1) u):AllNw id c A i (.d (Fb t [ex (.int .u8 z)])::u):=⟨.inr (.inr A60),f⟩
theorem AllNw.p{id c i j off:Nat}{A:List Nat}(h:Nat.beq j id=false)(f:AllNw id c A (i+1) u):AllNw id c A i (.ptr j off::u):=⟨.inr (.inr (Nat.ne_of_beq_eq_false h)),f⟩
theorem AllNw.o{id c i j:Nat}{A:List Nat}(h:Nat.beq j id=false)(f:AllNw id c A (i+1) u):AllNw id c A i (.own j::u):=⟨.inr (.inr (Nat.ne_of_beq_eq_false h)),f⟩
theorem AllNw.get{id c:Nat}{C:List Nat}:∀{M:List AV} {j:Nat},AllNw id c C j M->∀(i:Nat) r,M[i]? = some r->j+i≠c->j+i∉C->r.nw id
 |[],_,_,_,_,h,_,_=>by cases h
 |x::M,j,⟨A,_⟩,0,r,h,I,K=>by
  cases h;rcases A with A | A | A
  .exact absurd (Nat.eq_of_beq_eq_true A) I
  .exact absurd Zdg K
  .exact A
 |x::M,j,⟨_,B⟩,i+1,r,h,I,K=>AllNw.get B i r ZcY ZeI (by rw[Nat.add_assoc,Nat.add_comm 1];exact K)
def MemNw(id:Nat):Nat->List Ow->Prop
 |_,[]=>True
 |i,o::G=>(Nat.beq i id=true\/o.nw id)/\MemNw id (i+1) G
theorem MemNw.nil{id i:Nat}:MemNw id i []:=trivial
theorem A4o{id i:Nat}{o:Ow}(h:Nat.beq i id=true)(f:MemNw id (i+1) H):MemNw id i (o::H):=⟨.inl h,f⟩
theorem A4n{id i T:Nat}(h:AllNw id u.length [] 0 u)(f:MemNw id (i+1) H):MemNw id i (.var T u::H):=⟨.inr λU R=>by
 obtain⟨k,C⟩:=List.getElem?_of_mem R;have:=(List.getElem?_eq_some_iff.1 C).1;exact h.get k U C ZbK ZbV,f⟩
theorem MemNw.p{id i:Nat}{l:List (Value×AV)}(h:AllNw id l.length [] 0 (l.map (·.2)))(f:MemNw id (i+1) H):MemNw id i (.pin l::H):=⟨.inr λp u=>by
 obtain⟨k,C⟩:=List.getElem?_of_mem u;have:=(List.getElem?_eq_some_iff.1 C).1;exact h.get k p.2 (by rw[List.getElem?_map,C];rfl) ZbK ZbV,f⟩
theorem MemNw.get{id:Nat}:∀{G:List Ow} {j:Nat},MemNw id j G->∀(i:Nat) o,G[i]? = some o->j+i≠id->o.nw id
 |[],_,_,_,_,h,_=>by cases h
 |x::M,j,⟨A,_⟩,0,r,h,I=>by
  cases h;exact A.elim (λA=>absurd (Nat.eq_of_beq_eq_true A) I) λh=>h
 |x::M,j,⟨_,B⟩,i+1,r,h,I=>MemNw.get B i r ZcY ZeI
theorem DTurn.words{s0:An}{id base m bytes T x c:Nat}{l:List Nat}{w Z:Operand}{G:List (Nat×Nat)}{g:Option Tmp}{ty:TypeId}{r:String}{Y:Array Edge}{q:Option (Nat×Bool)}(S:H[id]? = some (.obj (WOV base v l)))
  (E:Eu ⟨vf,Dp H id (.obj (WOV base v l)) (.obj (Xh base (l++[x]))) false⟩ (u.map HR.av) G w=.d (ex v)) (O:Eu ⟨vf,Dp H id (.obj (WOV base v l)) (.obj (Xh base (l++[x]))) false⟩ (u.map HR.av) G Z=.d (slD U 1 [[ex (.int .u32 (x:Nat))]]))
  (J:Tab P t (.slice 335) m T z) (R:Tab P 335 d 1 bytes ue) (e:ue=.int .u32 0) (C:AllNw id c f 0 u) (I:AllNw id vf.length [] 0 (vf.map (·.2))) (V:MemNw id 0 H) (xb:s0.g.w.heap.size=base) (X:x<4294967296) (j:(l.length+1)*bytes<=140737488355328) (b:l.length+1<=4611686018427387904) :
  DTurn P s0 n vf H id (.obj (WOV base v l)) (.obj (Xh base (l++[x]))) u f c G ⟨g,.call { callee:=.builtin .append,args:=#[w,Z],argTypes:=#[t,t] },ty,r,Y,q⟩ (.own id):=λF hF s W a Q xa=>by
 have xc:Dp H id (.obj (WOV base v l)) (.obj (Xh base (l++[x]))) false=H:=Zbd
 have xd:=xa w ZcX;have xe:=xa Z ZcX;rw[E]at xd;rw[O]at xe;rw[xc]at Q
 have:=A0Y (P:=P) (o:=⟨g,.call { callee:=.builtin .append,args:=#[w,Z],argTypes:=#[t,t] },ty,r,Y,q⟩) rfl Q S (λp N=>by
  rcases hF p N with⟨i,A,B,L⟩ | h
  .exact C.get i p.2 L ZbK (by rw[Nat.zero_add];exact B)
  .obtain ⟨k,y⟩:=List.getElem?_of_mem h
   have:=(List.getElem?_eq_some_iff.1 y).1;exact I.get k p.2 (by rw[List.getElem?_map,y];rfl) ZbK ZbV) (λi o M K=>V.get i o K ZbK) ZbK ZbK (exD xd) xe X J R e j b
 exact this
theorem Ya{s0:An}(base:Nat)(f:Fy H (.obj (WOV base (.slice none 0 0) []))=some vA)(k:AWp P s0 n vp vm ⟨vf,vA⟩):AWp P s0 n vp vm ⟨vf,H⟩:=by
 rw[EF f]at k;refine⟨λa w ⟨s,W,A,x⟩=>?_⟩;have:=x.new (GS.Le.refl s) (dst:=none) (v:=undef) (u:=undef) (r:=.d Cs) (ow:=.obj (WOV base (.slice none 0 0) [])) (λd Z=>by cases Z) trivial (WOV.nil base s) (λb F=>by cases F);exact k.run a w ⟨s,_,A,this⟩
theorem A0P{s0:An}(id base:Nat)(l:List Nat)(I:H[id]? = some (.obj (Xh base l)))(k:∀v,AWp P s0 n vp vm ⟨vf.map λp=>(p.1,down id (ex v) p.2),(H.map (Ow.mapA (down id (ex v)))).set id (.obj (WOV base v l))⟩):AWp P s0 n vp vm ⟨vf,H⟩:=by
 refine⟨λa w ⟨s,W,B,A⟩=>(k (W id)).run a w ⟨s,W,B,?_⟩⟩
 exact A.upd (s':=s) A.le A.ok (GS.Chg.refl s) (id:=id) (o':=.obj (WOV base (W id) l)) (ρ':=W) (f:=down id (ex (W id))) I (λb _ _=>⟨rfl,λ_=>Iff.rfl⟩) (λ_ _=>rfl) (show WRel base l s (W id)from A.hp id _ I) (λb F=>.inl F) λU v R=>Zbe
theorem AVle.words{m id base:Nat}{l:List Nat}(I:H[id]? = some (.obj (WOV base z l))):AVle H m (.d (ex z)) (.d (wD l)):=λb W s u A L=>by
 have L:u=z:=L;rw[L];exact WRel.wD (A id _ I)
theorem A4m{i base:Nat}{l:List Nat}(h:H[i]? = some (.obj (Xh base l))):One H (.own i):=λb W s v B ⟨_,q⟩=>by
 have A:WRel base l s (W i):=B i _ h;rcases A.cases with⟨c,_⟩ | ⟨g,cap,cur,c,_⟩<;>rw[q,c]<;>rfl
end Go.Proofs.YtcikkglcoeedlaaGreat
