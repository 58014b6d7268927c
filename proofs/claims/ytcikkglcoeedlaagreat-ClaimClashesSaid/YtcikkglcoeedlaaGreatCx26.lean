/- Part 26 of the proof of claimClashes_holds. No condition. -/
import Derived.Test.YtcikkglcoeedlaaGreatCx19
import Derived.Test.YtcikkglcoeedlaaGreatCx22
import Derived.Test.YtcikkglcoeedlaaGreatCx24
import Derived.Test.YtcikkglcoeedlaaGreatCx25
set_option linter.unusedSimpArgs false
set_option linter.unusedVariables false
set_option maxRecDepth 100000
set_option maxHeartbeats 8000000
namespace Go.Proofs.YtcikkglcoeedlaaGreat
open Go.RowKit
variable{vi:Act}{vn:Code}{vl:Exit->AS->Prop}{s vq:GS}{a:Int}{vd:List (Nat×AV)}{f:List Nat}{H vw:List Ow}{j:Type}{vE:List j}{n:Nat}{ve:Nat->Int}{vg:Nat->Value}{P:Program}{d:TypeDesc}{t U:TypeId}{z v ui:Value}
theorem JP{x d:j}(h:vE.length=n):(λi=>(vE++[x]).getD i d)=λi=>if i=n then x else vE.getD i d:=by
 funext i;rw[List.getD_eq_getElem?_getD,List.getD_eq_getElem?_getD];split
 .rename_i e
  subst e;subst h;simp
 .rename_i e
  rcases Nat.lt_or_ge i n with u | u
  .rw [List.getElem?_append_left Zbx]
  .rw [List.getElem?_eq_none ZgC,List.getElem?_eq_none Zbx]
theorem OI:Rdr 265 (λa:Nat->Int=>AL (Cr a)) (Qi G0):=Rdr.intro λT l L=>by
 refine Bf Tryz.func265 rfl (Ag Tryz.func265 Zbz Zbz) rfl λA m=>?_;rw[Tryz.ntmps265];refine Go ?_;refine AE (λu f=>∃k E c,k<=8/\u=8-k/\E.length=k/\Byt c/\(BQ (Hr G0) 8 l=(BQ (Hr G0) (8-k) c).map λy=>(E++y.1,y.2))/\f=⟨[(0,.ptr 0 0),(2,.ptr 2 0),(4,.d (ex (.int .i64 (k:Nat))))],[.var 92 [.d (FC T c)],.pin [(m,.own 0)],.var 36 ((Cr λi=>E.getD i default).map .d)]⟩) ?le ⟨0,[],l,Nat.zero_le _,rfl,rfl,L,by cases BQ (Hr G0) 8 l<;>rfl,rfl⟩ ?round
 case le=>exact Ac Zcu (by exact HpLe.cons (Ad rfl)<|HpLe.cons (Ai rfl)<|HpLe.cons (Ad rfl)<|HpLe.nil)
 case round=>
  rintro u _ ⟨k,E,c,B,rfl,N,F,Y,rfl⟩;by_cases Q:k<8
  .have G:=Fe T c F
   refine Go ?_;refine AJ [0] [] [] (G) (BA rfl) (λC=>(by repeat (first | exact AC (Rd.none (Dk Q Y C)) | apply Ar | apply PanQ.block | apply PanQ.loop):PanQ _ _) _) rfl rfl Zbu Zbt ZbA Zbr Zbw trivial rfl ?_;rintro _ _ ⟨x,K,I,h,rfl,rfl⟩;refine Kr ?_;refine Wq PJ ?_;refine JE (ao rfl) (ao rfl) rfl (Aa rfl) (by first | exact EV rfl) (SetAt.mon Q) rfl ?_;refine Go ?_;refine Am (8-(k+1)) Zbx ⟨k+1,E++[x],K,by omega,rfl,by simp[N],h,Dj Q Y I,rfl⟩ ?_;exact Ac Zcu (by refine HpLe.cons (Ad rfl) ?_;refine HpLe.cons (Ai rfl) ?_;(refine HpLe.cons (OwLe.varD (by rw[JP N];rfl)) ?_);exact HpLe.nil)
  .obtain rfl:k=8:=by omega
   refine Zey ?_;exact⟨λi=>E.getD i default,c,by show KB (Hr G0) l=_;unfold KB;rw[Rd.some (a:=E) (l':=c) Zeu];rfl,F,rfl,rfl⟩
theorem AT:D.le (ex (.slice none 0 0)) (wD []):=λs v h=>⟨Bd s v h,by intro x C;cases C⟩
def AllLe:List D->List D->Prop
 |a::l,b::r=>D.le a b/\AllLe l r
 |[],[]=>True
 |_,_=>False
theorem AllLe.get:∀{l r:List D},AllLe l r->l.length=r.length/\∀(k:Nat) y,r[k]? = some y->∃x,l[k]? = some x/\D.le x y
 |[],[],_=>⟨rfl,λk y h=>by cases h⟩
 |[],_::_,h=>h.elim
 |_::_,[],h=>h.elim
 |a::l,b::r,⟨u,A⟩=>by
  obtain⟨I,V⟩:=AllLe.get A;refine⟨by simp[I],λk y h=>?_⟩
  cases k with
  |zero=>cases h;exact⟨a,rfl,u⟩
  |succ k=>exact V k y ZcK
theorem Hk{m T:Nat}{c r:List D}(h:AllLe c r):OwLe H m (.var T (c.map .d)) (.var T (r.map .d)):=by
 obtain⟨u,A⟩:=h.get;refine OwLe.var (by simp[u]) λk y N=>?_;rw[List.getElem?_map]at N
 cases G:r[k]? with
 |none=>rw[G]at N;cases N
 |some z=>
  rw[G]at N;cases N;obtain⟨x,C,L⟩:=A k z G;exact⟨.d x,by rw[List.getElem?_map,C];rfl,AVle.le L⟩
theorem TI{c:j->List D}{x d:j}(h:vE.length=n):FE (Xj (λi=>c (vE.getD i d)) n (c x))=FE λi=>c ((vE++[x]).getD i d):=by
 congr 1;funext i;rw[congrFun (JP h) i];unfold Xj;split<;>rfl
theorem IJ{c:Nat->List D}{n i:Nat}{v:List D}(h:∀i,(c i).length=n)(o:v.length=n)(K:i<8):SetAt (FE c) (0+i*n) v (FE (Xj c i v)):=by
 rw[Nat.zero_add];exact Zw h o K
theorem Vh:AllLe [ex (.bool false),ex (.slice none 0 0),ex (.bool false),ex (.slice none 0 0),ex (.bool false),ex (.slice none 0 0),ex (.bool false),ex (.slice none 0 0),ex (.bool false),ex (.slice none 0 0),ex (.bool false),ex (.slice none 0 0),ex (.bool false),ex (.slice none 0 0),ex (.bool false),ex (.slice none 0 0),ex (.bool false),ex (.slice none 0 0),ex (.bool false),ex (.slice none 0 0),ex (.bool false),ex (.slice none 0 0),ex (.bool false),ex (.slice none 0 0),ex (.bool false),ex (.slice none 0 0),ex (.bool false),ex (.slice none 0 0),ex (.bool false),ex (.slice none 0 0),ex (.bool false),ex (.slice none 0 0)] (FE λi=>HK (([]:List (RQ)).getD i default)):=⟨D.le.refl _,⟨AT,⟨D.le.refl _,⟨AT,⟨D.le.refl _,⟨AT,⟨D.le.refl _,⟨AT,⟨D.le.refl _,⟨AT,⟨D.le.refl _,⟨AT,⟨D.le.refl _,⟨AT,⟨D.le.refl _,⟨AT,⟨D.le.refl _,⟨AT,⟨D.le.refl _,⟨AT,⟨D.le.refl _,⟨AT,⟨D.le.refl _,⟨AT,⟨D.le.refl _,⟨AT,⟨D.le.refl _,⟨AT,⟨D.le.refl _,⟨AT,⟨D.le.refl _,⟨AT,trivial⟩⟩⟩⟩⟩⟩⟩⟩⟩⟩⟩⟩⟩⟩⟩⟩⟩⟩⟩⟩⟩⟩⟩⟩⟩⟩⟩⟩⟩⟩⟩⟩
theorem A0z(X:Rdr 270 (λx:RQ=>AL (HK x)) (Fw G0)):Rdr 196 (λf:Nat->RQ=>AL (Oz f)) (ptP G0):=Rdr.intro λT l L=>by
 refine Bf Tryz.func196 rfl (Ag Tryz.func196 Zbz Zbz) rfl λA m=>?_;rw[Tryz.ntmps196];refine Go ?_;refine AE (λC u=>∃k F c,k<=8/\C=8-k/\F.length=k/\Byt c/\(BQ (Fw G0) 8 l=(BQ (Fw G0) (8-k) c).map λy=>(F++y.1,y.2))/\u=⟨[(0,.ptr 0 0),(2,.ptr 2 0),(4,.d (ex (.int .i64 (k:Nat))))],[.var 92 [.d (FC T c)],.pin [(m,.own 0)],.var 187 ((FE λi=>HK (F.getD i default)).map .d)]⟩) ?le ⟨0,[],l,Nat.zero_le _,rfl,rfl,L,by cases BQ (Fw G0) 8 l<;>rfl,rfl⟩ ?round
 case le=>exact Ac Zcu (by exact HpLe.cons (Ad rfl)<|HpLe.cons (Ai rfl)<|HpLe.cons (Hk Vh)<|HpLe.nil)
 case round=>
  rintro C _ ⟨k,F,c,B,rfl,N,K,Y,rfl⟩;by_cases Q:k<8
  .exact ZaX
  .obtain rfl:k=8:=by omega
   refine Zey ?_;exact⟨λi=>F.getD i default,c,by show KB (Fw G0) l=_;unfold KB;rw[Rd.some (a:=F) (l':=c) Zeu];rfl,K,rfl,rfl⟩
theorem NS:AllLe [ex (.bool false),ex (.slice none 0 0),ex (.bool false),ex (.slice none 0 0),ex (.bool false),ex (.slice none 0 0),ex (.bool false),ex (.slice none 0 0),ex (.bool false),ex (.slice none 0 0),ex (.bool false),ex (.slice none 0 0),ex (.bool false),ex (.slice none 0 0),ex (.bool false),ex (.slice none 0 0),ex (.bool false),ex (.slice none 0 0),ex (.bool false),ex (.slice none 0 0),ex (.bool false),ex (.slice none 0 0),ex (.bool false),ex (.slice none 0 0),ex (.bool false),ex (.slice none 0 0),ex (.bool false),ex (.slice none 0 0),ex (.bool false),ex (.slice none 0 0),ex (.bool false),ex (.slice none 0 0),ex (.bool false),ex (.slice none 0 0),ex (.bool false),ex (.slice none 0 0),ex (.bool false),ex (.slice none 0 0),ex (.bool false),ex (.slice none 0 0),ex (.bool false),ex (.slice none 0 0),ex (.bool false),ex (.slice none 0 0),ex (.bool false),ex (.slice none 0 0),ex (.bool false),ex (.slice none 0 0),ex (.bool false),ex (.slice none 0 0),ex (.bool false),ex (.slice none 0 0),ex (.bool false),ex (.slice none 0 0),ex (.bool false),ex (.slice none 0 0),ex (.bool false),ex (.slice none 0 0),ex (.bool false),ex (.slice none 0 0),ex (.bool false),ex (.slice none 0 0),ex (.bool false),ex (.slice none 0 0)] (FE λi=>KT (([]:List (RQ×RQ)).getD i default)):=⟨D.le.refl _,⟨AT,⟨D.le.refl _,⟨AT,⟨D.le.refl _,⟨AT,⟨D.le.refl _,⟨AT,⟨D.le.refl _,⟨AT,⟨D.le.refl _,⟨AT,⟨D.le.refl _,⟨AT,⟨D.le.refl _,⟨AT,⟨D.le.refl _,⟨AT,⟨D.le.refl _,⟨AT,⟨D.le.refl _,⟨AT,⟨D.le.refl _,⟨AT,⟨D.le.refl _,⟨AT,⟨D.le.refl _,⟨AT,⟨D.le.refl _,⟨AT,⟨D.le.refl _,⟨AT,⟨D.le.refl _,⟨AT,⟨D.le.refl _,⟨AT,⟨D.le.refl _,⟨AT,⟨D.le.refl _,⟨AT,⟨D.le.refl _,⟨AT,⟨D.le.refl _,⟨AT,⟨D.le.refl _,⟨AT,⟨D.le.refl _,⟨AT,⟨D.le.refl _,⟨AT,⟨D.le.refl _,⟨AT,⟨D.le.refl _,⟨AT,⟨D.le.refl _,⟨AT,⟨D.le.refl _,⟨AT,⟨D.le.refl _,⟨AT,⟨D.le.refl _,⟨AT,⟨D.le.refl _,⟨AT,trivial⟩⟩⟩⟩⟩⟩⟩⟩⟩⟩⟩⟩⟩⟩⟩⟩⟩⟩⟩⟩⟩⟩⟩⟩⟩⟩⟩⟩⟩⟩⟩⟩⟩⟩⟩⟩⟩⟩⟩⟩⟩⟩⟩⟩⟩⟩⟩⟩⟩⟩⟩⟩⟩⟩⟩⟩⟩⟩⟩⟩⟩⟩⟩⟩
theorem A4R(X:Rdr 192 (λx:RQ×RQ=>AL (KT x)) (Sr G0)):Rdr 267 (λf:Nat->RQ×RQ=>AL (DB f)) (SC G0):=Rdr.intro λT l L=>by
 refine Bf Tryz.func267 rfl (Ag Tryz.func267 Zbz Zbz) rfl λA m=>?_;rw[Tryz.ntmps267];refine Go ?_;refine AE (λC u=>∃k F c,k<=8/\C=8-k/\F.length=k/\Byt c/\(BQ (Sr G0) 8 l=(BQ (Sr G0) (8-k) c).map λy=>(F++y.1,y.2))/\u=⟨[(0,.ptr 0 0),(2,.ptr 2 0),(4,.d (ex (.int .i64 (k:Nat))))],[.var 92 [.d (FC T c)],.pin [(m,.own 0)],.var 131 ((FE λi=>KT (F.getD i default)).map .d)]⟩) ?le ⟨0,[],l,Nat.zero_le _,rfl,rfl,L,by cases BQ (Sr G0) 8 l<;>rfl,rfl⟩ ?round
 case le=>exact Ac Zcu (by exact HpLe.cons (Ad rfl)<|HpLe.cons (Ai rfl)<|HpLe.cons (Hk NS)<|HpLe.nil)
 case round=>
  rintro C _ ⟨k,F,c,B,rfl,N,K,Y,rfl⟩;by_cases Q:k<8
  .exact ZaX
  .obtain rfl:k=8:=by omega
   refine Zey ?_;exact⟨λi=>F.getD i default,c,by show KB (Sr G0) l=_;unfold KB;rw[Rd.some (a:=F) (l':=c) Zeu];rfl,K,rfl,rfl⟩
theorem SetAt.rt{t:RTm}(h:n<8):SetAt (rtC t) (0+4+n*1) [ex (.int .i64 a)] (rtC { t with m:=On t.m n a }):=by
 rcases lt8 h with rfl | rfl | rfl | rfl | rfl | rfl | rfl | rfl<;>exact⟨Nat.le_of_ble_eq_true rfl,rfl⟩
theorem A2h(X:Rdr 270 (λx:RQ=>AL (HK x)) (Fw G0)):Rdr 263 (λt:RTm=>AL (rtC t)) (HO G0):=Rdr.intro λT l L=>by
 have G:=X T l L;refine Bf Tryz.func263 rfl (Ag Tryz.func263 Zbz Zbz) rfl λA m=>?_;rw[Tryz.ntmps263];refine Zfb ?_;rintro _ _ ⟨a,V,g,W,rfl,rfl⟩;refine ZeL ?_;refine AE (λu f=>∃k K c,k<=8/\u=8-k/\K.length=k/\Byt c/\(BQ (Pf G0) 8 V=(BQ (Pf G0) (8-k) c).map λy=>(K++y.1,y.2))/\f=⟨[(0,.ptr 0 0),(2,.ptr 2 0),(3,.ptr 3 0),(9,.d (ex (.int .i64 (k:Nat))))],[.var 92 [.d (FC T c)],.pin [(m,.own 0)],.var 114 ([ex (.bool false),ex (.slice none 0 0),ex (.bool false),ex (.slice none 0 0),ex (.int .i64 0),ex (.int .i64 0),ex (.int .i64 0),ex (.int .i64 0),ex (.int .i64 0),ex (.int .i64 0),ex (.int .i64 0),ex (.int .i64 0)].map .d),.var 114 ((rtC ⟨a.b,a.l,a.b',a.l',λi=>K.getD i default⟩).map .d)]⟩) ?le ⟨0,[],V,Nat.zero_le _,rfl,rfl,W,by cases BQ (Pf G0) 8 V<;>rfl,rfl⟩ ?round
 case le=>exact Ac Zcx (by exact HpLe.cons (Ad rfl)<|HpLe.cons (Ai rfl)<|HpLe.cons (Ad rfl)<|HpLe.cons (Ad rfl)<|HpLe.nil)
 case round=>
  rintro u _ ⟨k,K,c,B,rfl,S,N,Y,rfl⟩
  have M:∀{r},BQ (Pf G0) 8 V=r->HO G0 l=(match r with | none=>none | some (Z,O)=>some (⟨a.b,a.l,a.b',a.l',λi=>Z.getD i default⟩,O)):=λ{r} Y=>by
   unfold HO;rw[Rd.some g];unfold KB Rd.bind;rw[Y];cases r<;>rfl
  by_cases Q:k<8
  .have G:=CX T c N
   refine Go ?_;refine AJ [0] [] [] (G) (BA rfl) (λF=>(by repeat (first | exact AC (M (Dk Q Y (Rd.none F))) | apply Ar | apply PanQ.block | apply PanQ.loop):PanQ _ _) _) rfl rfl Zbu Zbt ZbA Zbr Zbw trivial rfl ?_;rintro _ _ ⟨n,O,I,R,rfl,rfl⟩;refine Kr ?_;have h:=EH I;by_cases E:65535<n
   .have C:Pf G0 c=none:=by
     unfold Pf;rw[Rd.some (p:=G0.nat) I];exact if_neg (by simp[G0];omega)
    refine Go ?_;refine Wq (DN (ao rfl) (Aa rfl)) ?_;refine CP (ao rfl) ?_;exact(by repeat (first | exact AC (M (Dk Q Y C)) | apply Ar | apply PanQ.block | apply PanQ.loop):PanQ _ _) _
   .have C:Pf G0 c=some ((n:Int),O):=by
     unfold Pf;rw[Rd.some (p:=G0.nat) I];exact if_pos (by simp[G0];omega)
    refine Wa<|Y0<|Aj<|Y1<|Wm ?_;refine Wq AR ?_;refine Y0<|Cf<|Ys<|AWp.region<|Wm<|Wm ?_;refine Wq (AD (r:=((n:Nat):Int)) (ao rfl) (Aa rfl) (Aa rfl) ZdN) ?_;refine Wq AH ?_;refine Wq PJ ?_;refine JE (ao rfl) (ao rfl) rfl (Aa rfl) (by first | exact EV rfl) (SetAt.rt Q) rfl ?_;refine AWl.nil<|BE<|Yn<|AWp.region ?_;refine Wq Eb ?_;refine Wm<|AWl.nil ?_
    refine Am (8-(k+1)) Zbx ⟨k+1,K++[(n:Int)],O,by omega,rfl,by simp[S],R,Dj Q Y C,rfl⟩ ?_;exact Ac Zcx Zcy
  .exact ZaY
theorem A31(X:Rdr 184 (λL:List (List RTm)=>HU L) (DZ G0))(E:Suf (DZ G0)):Rdr 96 (λk:Cor=>AL (FI k)) (Uo G0):=Rdr.intro λT l B=>by
 have G:=Fe T l B;refine Bf Tryz.func96 rfl (Ag Tryz.func96 Zbz Zbz) rfl λC m=>?_;rw[Tryz.ntmps96];refine ZeD ?_;rintro _ _ ⟨n,j,u,P,rfl,rfl⟩;refine Kr ?_;have O:=X T j P;refine Go ?_;refine AJ [0] [] [] (O) (BA rfl) (λY=>(by repeat (first | exact AC (by unfold Uo;rw[Rd.some u];exact Rd.none Y) | apply Ar | apply PanQ.block | apply PanQ.loop):PanQ _ _) _) rfl rfl Zbu Zbt ZbA Zbr Zbw trivial rfl ?_;rintro _ _ ⟨e,c,A,F,rfl,rfl⟩;refine Kr ?_;have M:=X T c F;refine Go ?_;refine AJ [0] [] [] (M) (BA rfl) (λY=>(by repeat (first | exact AC (by unfold Uo;rw[Rd.some u,Rd.some A];exact Rd.none Y) | apply Ar | apply PanQ.block | apply PanQ.loop):PanQ _ _) _) rfl rfl Zbu Zbt ZbA Zbr Zbw trivial rfl ?_;rintro _ _ ⟨f,K,I,h,rfl,rfl⟩;refine Kr ?_;refine Zey ?_;exact⟨⟨n,e,f⟩,K,by unfold Uo;rw[Rd.some u,Rd.some A,Rd.some I];rfl,h,rfl,rfl⟩
theorem A1h(xa:Rdr 185 (λx:List RTm=>IU x) (Gv G0))(a:Rdr 184 (λx:List (List RTm)=>HU x) (DZ G0))(v:Rdr 186 (λx:List (Nat->Int)=>EZ x) (Me G0))(t:Rdr 188 (λx:List (Nat->RQ×RQ)=>Gf x) (Mp G0)):Rdr 97 (λc:Clm=>AL (Ef c)) (KH G0):=Rdr.intro λT l L=>by
 have M:=Fe T l L;refine Bf Tryz.func97 rfl (Ag Tryz.func97 Zbz Zbz) rfl λB E=>?_;rw[Tryz.ntmps97];refine Go ?_;refine AJ [0] [] [] (M) (BA rfl) (λY=>(by repeat (first | exact AC (by unfold KH;exact Rd.none Y) | apply Ar | apply PanQ.block | apply PanQ.loop):PanQ _ _) _) rfl rfl Zbu Zbt ZbA Zbr Zbw trivial rfl ?_;rintro _ _ ⟨kind,j,u,P,rfl,rfl⟩;refine Kr ?_;have W:=xa T j P;refine Go ?_;refine AJ [0] [] [] (W) (BA rfl) (λY=>(by repeat (first | exact AC (by unfold KH;rw[Rd.some u];exact Rd.none Y) | apply Ar | apply PanQ.block | apply PanQ.loop):PanQ _ _) _) rfl rfl Zbu Zbt ZbA Zbr Zbw trivial rfl ?_;rintro _ _ ⟨p,C,A,G,rfl,rfl⟩;refine Kr ?_;have O:=Fe T C G;refine Go ?_;refine AJ [0] [] [] (O) (BA rfl) (λY=>(by repeat (first | exact AC (by unfold KH;rw[Rd.some u,Rd.some A];exact Rd.none Y) | apply Ar | apply PanQ.block | apply PanQ.loop):PanQ _ _) _) rfl rfl Zbu Zbt ZbA Zbr Zbw trivial rfl ?_;rintro _ _ ⟨n,K,I,h,rfl,rfl⟩;refine Kr ?_;have k:=Fe T K h;refine Go ?_;refine AJ [0] [] [] (k) (BA rfl) (λY=>(by repeat (first | exact AC (by unfold KH;rw[Rd.some u,Rd.some A,Rd.some I];exact Rd.none Y) | apply Ar | apply PanQ.block | apply PanQ.loop):PanQ _ _) _) rfl rfl Zbu Zbt ZbA Zbr Zbw trivial rfl ?_;rintro _ _ ⟨d,f,V,i,rfl,rfl⟩;refine Kr ?_;have N:=Fe T f i;refine Go ?_;refine AJ [0] [] [] (N) (BA rfl) (λY=>(by repeat (first | exact AC (by unfold KH;rw[Rd.some u,Rd.some A,Rd.some I,Rd.some V];exact Rd.none Y) | apply Ar | apply PanQ.block | apply PanQ.loop):PanQ _ _) _) rfl rfl Zbu Zbt ZbA Zbr Zbw trivial rfl ?_;rintro _ _ ⟨r,U,m,g,rfl,rfl⟩;refine Kr ?_;have w:=v T U g;refine Go ?_;refine AJ [0] [] [] (w) (BA rfl) (λY=>(by repeat (first | exact AC (by unfold KH;rw[Rd.some u,Rd.some A,Rd.some I,Rd.some V,Rd.some m];exact Rd.none Y) | apply Ar | apply PanQ.block | apply PanQ.loop):PanQ _ _) _) rfl rfl Zbu Zbt ZbA Zbr Zbw trivial rfl ?_;rintro _ _ ⟨o,l6,y,Q,rfl,rfl⟩;refine Kr ?_;have z:=a T l6 Q;refine Go ?_;refine AJ [0] [] [] (z) (BA rfl) (λY=>(by repeat (first | exact AC (by unfold KH;rw[Rd.some u,Rd.some A,Rd.some I,Rd.some V,Rd.some m,Rd.some y];exact Rd.none Y) | apply Ar | apply PanQ.block | apply PanQ.loop):PanQ _ _) _) rfl rfl Zbu Zbt ZbA Zbr Zbw trivial rfl ?_;rintro _ _ ⟨q,l7,e,R,rfl,rfl⟩;refine Kr ?_;have H:=(A5D Fe) T l7 R;refine Zfo ?_;refine AJ [0] [] [] (H) (BA rfl) (λY=>(by repeat (first | exact AC (by unfold KH;rw[Rd.some u,Rd.some A,Rd.some I,Rd.some V,Rd.some m,Rd.some y,Rd.some e];exact Rd.none Y) | apply Ar | apply PanQ.block | apply PanQ.loop):PanQ _ _) _) rfl rfl Zbu Zbt ZbA Zbr Zbw trivial rfl ?_;rintro _ _ ⟨s,l8,F,S,rfl,rfl⟩;refine Kr ?_;have J:=t T l8 S;refine Go ?_;refine AJ [0] [] [] (J) (BA rfl) (λY=>(by repeat (first | exact AC (by unfold KH;rw[Rd.some u,Rd.some A,Rd.some I,Rd.some V,Rd.some m,Rd.some y,Rd.some e,Rd.some F];exact Rd.none Y) | apply Ar | apply PanQ.block | apply PanQ.loop):PanQ _ _) _) rfl rfl Zbu Zbt ZbA Zbr Zbw trivial rfl ?_;rintro _ _ ⟨b,l9,Z,X,rfl,rfl⟩;refine Kr ?_;refine Zey ?_;exact⟨⟨kind,p,n,d,r,o,q,s,b⟩,l9,by unfold KH;rw[Rd.some u,Rd.some A,Rd.some I,Rd.some V,Rd.some m,Rd.some y,Rd.some e,Rd.some F,Rd.some Z];rfl,X,rfl,rfl⟩
theorem Zv{u:List RQ}{r:Nat->List RQ}{v:List RQ}(h:n<8):SetAt (RV ⟨ve,u,r⟩) (0+9+n*1) [Kf v] (RV ⟨ve,u,Xj r n v⟩):=by
 rcases lt8 h with rfl | rfl | rfl | rfl | rfl | rfl | rfl | rfl<;>exact⟨Nat.le_of_ble_eq_true rfl,rfl⟩
theorem A05{u:List RQ}:AllLe [ex (.int .i64 (ve 0)),ex (.int .i64 (ve 1)),ex (.int .i64 (ve 2)),ex (.int .i64 (ve 3)),ex (.int .i64 (ve 4)),ex (.int .i64 (ve 5)),ex (.int .i64 (ve 6)),ex (.int .i64 (ve 7)),Kf u,ex (.slice none 0 0),ex (.slice none 0 0),ex (.slice none 0 0),ex (.slice none 0 0),ex (.slice none 0 0),ex (.slice none 0 0),ex (.slice none 0 0),ex (.slice none 0 0)] (RV ⟨ve,u,λi=>([]:List (List RQ)).getD i default⟩):=
 ⟨D.le.refl _,D.le.refl _,D.le.refl _,D.le.refl _,D.le.refl _,D.le.refl _,D.le.refl _,D.le.refl _,D.le.refl _,Bd,Bd,Bd,Bd,Bd,Bd,Bd,Bd,trivial⟩
theorem RY(X:Rdr 269 (λL:List RQ=>Kf L) (RK G0)):Rdr 190 (λr:Rsl=>AL (RV r)) (Tt G0):=Rdr.intro λT l A=>by
 have G:=OI T l A;refine Bf Tryz.func190 rfl (Ag Tryz.func190 Zbz Zbz) rfl λC m=>?_;rw[Tryz.ntmps190];refine Zfb ?_;rintro _ _ ⟨d,O,t,U,rfl,rfl⟩;refine Kr ?_;have W:=X T O U;refine Go ?_;refine AJ [0] [] [] (W) (BA rfl) (λF=>(by repeat (first | exact AC (by unfold Tt;rw[Rd.some t];exact Rd.none F) | apply Ar | apply PanQ.block | apply PanQ.loop):PanQ _ _) _) rfl rfl Zbu Zbt ZbA Zbr Zbw trivial rfl ?_;rintro _ _ ⟨u,V,g,Z,rfl,rfl⟩;refine ZeL ?_;refine AE (λE f=>∃k K c,k<=8/\E=8-k/\K.length=k/\Byt c/\(BQ (RK G0) 8 V=(BQ (RK G0) (8-k) c).map λy=>(K++y.1,y.2))/\f=⟨[(0,.ptr 0 0),(2,.ptr 2 0),(3,.ptr 3 0),(11,.d (ex (.int .i64 (k:Nat))))],[.var 92 [.d (FC T c)],.pin [(m,.own 0)],.var 41 ([ex (.int .i64 0),ex (.int .i64 0),ex (.int .i64 0),ex (.int .i64 0),ex (.int .i64 0),ex (.int .i64 0),ex (.int .i64 0),ex (.int .i64 0),ex (.slice none 0 0),ex (.slice none 0 0),ex (.slice none 0 0),ex (.slice none 0 0),ex (.slice none 0 0),ex (.slice none 0 0),ex (.slice none 0 0),ex (.slice none 0 0),ex (.slice none 0 0)].map .d),.var 41 ((RV ⟨d,u,λi=>K.getD i default⟩).map .d)]⟩) ?le ⟨0,[],V,Nat.zero_le _,rfl,rfl,Z,by cases BQ (RK G0) 8 V<;>rfl,rfl⟩ ?round
 case le=>exact Ac Zcx (by exact HpLe.cons (Ad rfl)<|HpLe.cons (Ai rfl)<|HpLe.cons (Ad rfl)<|HpLe.cons (Hk A05)<|HpLe.nil)
 case round=>
  rintro E _ ⟨k,K,c,B,rfl,S,N,Y,rfl⟩
  have M:∀{r},BQ (RK G0) 8 V=r->Tt G0 l=(match r with | none=>none | some (a,R)=>some (⟨d,u,λi=>a.getD i default⟩,R)):=λ{r} Y=>by
   unfold Tt;rw[Rd.some t,Rd.some g];unfold KB Rd.bind;rw[Y];cases r<;>rfl
  by_cases Q:k<8
  .have G:=X T c N
   refine Go ?_;refine AJ [0] [] [] (G) (BA rfl) (λF=>(by repeat (first | exact AC (M (Dk Q Y F)) | apply Ar | apply PanQ.block | apply PanQ.loop):PanQ _ _) _) rfl rfl Zbu Zbt ZbA Zbr Zbw trivial rfl ?_;rintro _ _ ⟨x,R,I,h,rfl,rfl⟩;refine ZeL ?_;refine JE (ao rfl) (ao rfl) rfl (Aa rfl) (by first | exact Fq) (Zv Q) rfl ?_;refine Go ?_;refine Am (8-(k+1)) Zbx ⟨k+1,K++[x],R,by omega,rfl,by simp[S],h,Dj Q Y I,rfl⟩ ?_;exact Ac Zcx Zcy
  .exact ZaY
theorem RX(r:Rsl)(Y:RsW r):Wr 207 (AL (RV r)) (Je r):=Wr.intro λb E=>by
 have X:Je r=Fv r.l++Ft r.q++CU Ft r.r 8:=rfl;rw[X]at E ⊢;simp only[List.length_append]at E;have g:=OH r.l Y.l b Zbx;have u:=Kl r.q Y.q (b++Fv r.l) Zdd;refine Bm Tryz.func207 rfl (Ag Tryz.func207 Zbz Zbz) rfl λA m U=>?_;rw[Tryz.ntmps207];refine ZeG ?_;rintro _ _ ⟨rfl,rfl⟩;refine Kr ?_;refine ZeK ?_;rintro _ _ ⟨rfl,rfl⟩;refine ZeL ?_;refine AE (λC f=>∃k,k<=8/\C=8-k/\f=⟨[(0,.ptr 0 0),(15,.d (AL (up8 r.r))),(16,.d (ex (.int .i64 (k:Nat))))],[.var 103 [.own 1],.row 5 1 (Cy (b++Fv r.l++Ft r.q++CU (Ft) r.r k)),.pin [(m,.own 0)]]⟩) ?le ⟨0,by omega,rfl,rfl⟩ ?round
 case le=>exact Ac Zca ZbZ
 case round=>
  rintro C _ ⟨k,B,rfl,rfl⟩;by_cases Q:k<8
  .have B:=ES (Ft) r.r Q
   have G:=Kl (r.r k) (Y.r k Q) (b++Fv r.l++Ft r.q++CU (Ft) r.r k) ZbC;refine Go ?_;refine Wq (Kd (ao rfl) (ao rfl) (Aa rfl) (Aa rfl) rfl Q (WY Q)) ?_;refine Zft ?_;exact Zgs
  .obtain rfl:k=8:=by omega
   refine Go ?_
   first | refine Be RetsA.none rfl ?_ rfl | refine AG RetsA.none rfl ?_ rfl
   exact⟨rfl,by rw[List.append_assoc,List.append_assoc,List.append_assoc];rfl⟩
theorem XT(k:Cor)(h:CoW k):Wr 53 (AL (FI k)) (FA k):=Wr.intro λb E=>by
 simp only[FA,List.length_append]at E;have g:=EF k.n h.n (b) ZbC;have u:=HV k.e h.e (b++Bc k.n) ZbC;have A:=HV k.f h.f (b++Bc k.n++AQ k.e) ZbC;refine Bm Tryz.func53 rfl (Ag Tryz.func53 Zbz Zbz) rfl λB m U=>?_;rw[Tryz.ntmps53];refine ZeG ?_;rintro _ _ ⟨rfl,rfl⟩;refine Kr ?_;refine Ba (σ':=⟨[(0,.ptr 0 0),(3,.ptr 3 0)],[.var 103 [.own 1],.row 5 1 (Cy (b++Bc k.n)),.pin [(m,.own 0)],.var 26 ((FI k).map .d)]⟩) ?_ ?_
 .exact ZhQ
 refine ZeK ?_;rintro _ _ ⟨rfl,rfl⟩;refine Kr ?_;refine Ba (σ':=⟨[(0,.ptr 0 0),(3,.ptr 3 0)],[.var 103 [.own 1],.row 5 1 (Cy (b++Bc k.n++AQ k.e)),.pin [(m,.own 0)],.var 26 ((FI k).map .d)]⟩) ?_ ?_
 .exact ZhQ
 refine ZeU ?_;rintro _ _ ⟨rfl,rfl⟩;refine Kr ?_;refine Ba (σ':=⟨[(0,.ptr 0 0),(3,.ptr 3 0)],[.var 103 [.own 1],.row 5 1 (Cy (b++Bc k.n++AQ k.e++AQ k.f)),.pin [(m,.own 0)],.var 26 ((FI k).map .d)]⟩) ?_ ?_
 .exact ZhQ
 apply AWl.nil
 first | refine Be RetsA.none rfl ?_ rfl | refine AG RetsA.none rfl ?_ rfl
 exact⟨rfl,by simp only[FA,List.append_assoc];rfl⟩
theorem A1f(c:Clm)(h:ClW c):Wr 111 (AL (Ef c)) (IH c):=Wr.intro λb E=>by
 simp only[IH,List.length_append]at E;have g:=EF c.kind h.kind (b) ZbC;have u:=NE c.p h.p (b++Bc c.kind) ZbC;have A:=EF c.n h.n (b++Bc c.kind++Co c.p) ZbC;have I:=EF c.d h.d (b++Bc c.kind++Co c.p++Bc c.n) ZbC;have V:=EF c.r h.r (b++Bc c.kind++Co c.p++Bc c.n++Bc c.d) ZbC;have m:=OC c.o h.o (b++Bc c.kind++Co c.p++Bc c.n++Bc c.d++Bc c.r) ZbC;have y:=HV c.l h.l (b++Bc c.kind++Co c.p++Bc c.n++Bc c.d++Bc c.r++Cc c.o) ZbC;have e:=A5s c.s h.s (b++Bc c.kind++Co c.p++Bc c.n++Bc c.d++Bc c.r++Cc c.o++AQ c.l) ZbC;have F:=Uu c.b h.b (b++Bc c.kind++Co c.p++Bc c.n++Bc c.d++Bc c.r++Cc c.o++AQ c.l++Bk Bc c.s) ZbC;refine Bm Tryz.func111 rfl (Ag Tryz.func111 Zbz Zbz) rfl λB C U=>?_;rw[Tryz.ntmps111];refine ZeG ?_;rintro _ _ ⟨rfl,rfl⟩;refine Kr ?_;refine Ba (σ':=⟨[(0,.ptr 0 0),(3,.ptr 3 0)],[.var 103 [.own 1],.row 5 1 (Cy (b++Bc c.kind)),.pin [(C,.own 0)],.var 34 ((Ef c).map .d)]⟩) ?_ ?_
 .exact ZhQ
 refine ZeK ?_;rintro _ _ ⟨rfl,rfl⟩;refine Kr ?_;refine Ba (σ':=⟨[(0,.ptr 0 0),(3,.ptr 3 0)],[.var 103 [.own 1],.row 5 1 (Cy (b++Bc c.kind++Co c.p)),.pin [(C,.own 0)],.var 34 ((Ef c).map .d)]⟩) ?_ ?_
 .exact ZhQ
 refine ZeU ?_;rintro _ _ ⟨rfl,rfl⟩;refine Kr ?_;refine Ba (σ':=⟨[(0,.ptr 0 0),(3,.ptr 3 0)],[.var 103 [.own 1],.row 5 1 (Cy (b++Bc c.kind++Co c.p++Bc c.n)),.pin [(C,.own 0)],.var 34 ((Ef c).map .d)]⟩) ?_ ?_
 .exact ZhQ
 refine Go ?_;refine AF [0,1] [] [] (I) Zbs rfl rfl Zbu Zbt ZbA Zbr Zbw trivial rfl ?_;rintro _ _ ⟨rfl,rfl⟩;refine Kr ?_;refine Ba (σ':=⟨[(0,.ptr 0 0),(3,.ptr 3 0)],[.var 103 [.own 1],.row 5 1 (Cy (b++Bc c.kind++Co c.p++Bc c.n++Bc c.d)),.pin [(C,.own 0)],.var 34 ((Ef c).map .d)]⟩) ?_ ?_
 .exact ZhQ
 refine Go ?_;refine AF [0,1] [] [] (V) Zbs rfl rfl Zbu Zbt ZbA Zbr Zbw trivial rfl ?_;rintro _ _ ⟨rfl,rfl⟩;refine Kr ?_;refine Ba (σ':=⟨[(0,.ptr 0 0),(3,.ptr 3 0)],[.var 103 [.own 1],.row 5 1 (Cy (b++Bc c.kind++Co c.p++Bc c.n++Bc c.d++Bc c.r)),.pin [(C,.own 0)],.var 34 ((Ef c).map .d)]⟩) ?_ ?_
 .exact ZhQ
 refine Go ?_;refine AF [0,1] [] [] (m) Zbs rfl rfl Zbu Zbt ZbA Zbr Zbw trivial rfl ?_;rintro _ _ ⟨rfl,rfl⟩;refine Kr ?_;refine Ba (σ':=⟨[(0,.ptr 0 0),(3,.ptr 3 0)],[.var 103 [.own 1],.row 5 1 (Cy (b++Bc c.kind++Co c.p++Bc c.n++Bc c.d++Bc c.r++Cc c.o)),.pin [(C,.own 0)],.var 34 ((Ef c).map .d)]⟩) ?_ ?_
 .exact ZhQ
 refine Go ?_;refine AF [0,1] [] [] (y) Zbs rfl rfl Zbu Zbt ZbA Zbr Zbw trivial rfl ?_;rintro _ _ ⟨rfl,rfl⟩;refine Kr ?_;refine Ba (σ':=⟨[(0,.ptr 0 0),(3,.ptr 3 0)],[.var 103 [.own 1],.row 5 1 (Cy (b++Bc c.kind++Co c.p++Bc c.n++Bc c.d++Bc c.r++Cc c.o++AQ c.l)),.pin [(C,.own 0)],.var 34 ((Ef c).map .d)]⟩) ?_ ?_
 .exact ZhQ
 refine Zfo ?_;refine AF [0,1] [] [] (e) Zbs rfl rfl Zbu Zbt ZbA Zbr Zbw trivial rfl ?_;rintro _ _ ⟨rfl,rfl⟩;refine Kr ?_;refine Ba (σ':=⟨[(0,.ptr 0 0),(3,.ptr 3 0)],[.var 103 [.own 1],.row 5 1 (Cy (b++Bc c.kind++Co c.p++Bc c.n++Bc c.d++Bc c.r++Cc c.o++AQ c.l++Bk Bc c.s)),.pin [(C,.own 0)],.var 34 ((Ef c).map .d)]⟩) ?_ ?_
 .exact ZhQ
 refine Go ?_;refine AF [0,1] [] [] (F) Zbs rfl rfl Zbu Zbt ZbA Zbr Zbw trivial rfl ?_;rintro _ _ ⟨rfl,rfl⟩;refine Kr ?_;refine Ba (σ':=⟨[(0,.ptr 0 0),(3,.ptr 3 0)],[.var 103 [.own 1],.row 5 1 (Cy (b++Bc c.kind++Co c.p++Bc c.n++Bc c.d++Bc c.r++Cc c.o++AQ c.l++Bk Bc c.s++EB c.b)),.pin [(C,.own 0)],.var 34 ((Ef c).map .d)]⟩) ?_ ?_
 .exact ZhQ
 apply AWl.nil
 first | refine Be RetsA.none rfl ?_ rfl | refine AG RetsA.none rfl ?_ rfl
 exact⟨rfl,by simp only[IH,List.append_assoc];rfl⟩
theorem A38(e:Crt)(h:CrW e):Wr 112 (AL (Ea e)) (KG e):=Wr.intro λb E=>by
 simp only[KG,List.length_append]at E;have g:=EF e.n h.n (b) ZbC;have u:=HV e.cof h.cof (b++Bc e.n) ZbC;have A:=HV e.g h.g (b++Bc e.n++AQ e.cof) ZbC;have I:=OC e.o h.o (b++Bc e.n++AQ e.cof++AQ e.g) ZbC;have V:=LW e.c h.c (b++Bc e.n++AQ e.cof++AQ e.g++Cc e.o) ZbC;have m:=LW e.q h.q (b++Bc e.n++AQ e.cof++AQ e.g++Cc e.o++Bs e.c) ZbC;have y:=LW e.s h.s (b++Bc e.n++AQ e.cof++AQ e.g++Cc e.o++Bs e.c++Bs e.q) ZbC;have C:=RX e.r h.r (b++Bc e.n++AQ e.cof++AQ e.g++Cc e.o++Bs e.c++Bs e.q++Bs e.s) ZbC;have G:=A6f e.a h.a (b++Bc e.n++AQ e.cof++AQ e.g++Cc e.o++Bs e.c++Bs e.q++Bs e.s++Je e.r) ZbC;have Z:=A6d e.sq h.sq (b++Bc e.n++AQ e.cof++AQ e.g++Cc e.o++Bs e.c++Bs e.q++Bs e.s++Je e.r++Bk FH e.a) ZbC;have K:=A6e e.x h.x (b++Bc e.n++AQ e.cof++AQ e.g++Cc e.o++Bs e.c++Bs e.q++Bs e.s++Je e.r++Bk FH e.a++Bk IZ e.sq) ZbC;have L:=Uu e.b h.b (b++Bc e.n++AQ e.cof++AQ e.g++Cc e.o++Bs e.c++Bs e.q++Bs e.s++Je e.r++Bk FH e.a++Bk IZ e.sq++Bk ND e.x) ZbC;refine Bm Tryz.func112 rfl (Ag Tryz.func112 Zbz Zbz) rfl λB F U=>?_;rw[Tryz.ntmps112];refine ZeG ?_;rintro _ _ ⟨rfl,rfl⟩;refine Kr ?_;refine Ba (σ':=⟨[(0,.ptr 0 0),(3,.ptr 3 0)],[.var 103 [.own 1],.row 5 1 (Cy (b++Bc e.n)),.pin [(F,.own 0)],.var 46 ((Ea e).map .d)]⟩) ?_ ?_
 .exact ZhQ
 refine ZeK ?_;rintro _ _ ⟨rfl,rfl⟩;refine Kr ?_;refine Ba (σ':=⟨[(0,.ptr 0 0),(3,.ptr 3 0)],[.var 103 [.own 1],.row 5 1 (Cy (b++Bc e.n++AQ e.cof)),.pin [(F,.own 0)],.var 46 ((Ea e).map .d)]⟩) ?_ ?_
 .exact ZhQ
 refine ZeU ?_;rintro _ _ ⟨rfl,rfl⟩;refine Kr ?_;refine Ba (σ':=⟨[(0,.ptr 0 0),(3,.ptr 3 0)],[.var 103 [.own 1],.row 5 1 (Cy (b++Bc e.n++AQ e.cof++AQ e.g)),.pin [(F,.own 0)],.var 46 ((Ea e).map .d)]⟩) ?_ ?_
 .exact ZhQ
 refine Go ?_;refine AF [0,1] [] [] (I) Zbs rfl rfl Zbu Zbt ZbA Zbr Zbw trivial rfl ?_;rintro _ _ ⟨rfl,rfl⟩;refine Kr ?_;refine Ba (σ':=⟨[(0,.ptr 0 0),(3,.ptr 3 0)],[.var 103 [.own 1],.row 5 1 (Cy (b++Bc e.n++AQ e.cof++AQ e.g++Cc e.o)),.pin [(F,.own 0)],.var 46 ((Ea e).map .d)]⟩) ?_ ?_
 .exact ZhQ
 refine Go ?_;refine AF [0,1] [] [] (V) Zbs rfl rfl Zbu Zbt ZbA Zbr Zbw trivial rfl ?_;rintro _ _ ⟨rfl,rfl⟩;refine Kr ?_;refine Ba (σ':=⟨[(0,.ptr 0 0),(3,.ptr 3 0)],[.var 103 [.own 1],.row 5 1 (Cy (b++Bc e.n++AQ e.cof++AQ e.g++Cc e.o++Bs e.c)),.pin [(F,.own 0)],.var 46 ((Ea e).map .d)]⟩) ?_ ?_
 .exact ZhQ
 refine Go ?_;refine AF [0,1] [] [] (m) Zbs rfl rfl Zbu Zbt ZbA Zbr Zbw trivial rfl ?_;rintro _ _ ⟨rfl,rfl⟩;refine Kr ?_;refine Ba (σ':=⟨[(0,.ptr 0 0),(3,.ptr 3 0)],[.var 103 [.own 1],.row 5 1 (Cy (b++Bc e.n++AQ e.cof++AQ e.g++Cc e.o++Bs e.c++Bs e.q)),.pin [(F,.own 0)],.var 46 ((Ea e).map .d)]⟩) ?_ ?_
 .exact ZhQ
 refine Go ?_;refine AF [0,1] [] [] (y) Zbs rfl rfl Zbu Zbt ZbA Zbr Zbw trivial rfl ?_;rintro _ _ ⟨rfl,rfl⟩;refine Kr ?_;refine Ba (σ':=⟨[(0,.ptr 0 0),(3,.ptr 3 0)],[.var 103 [.own 1],.row 5 1 (Cy (b++Bc e.n++AQ e.cof++AQ e.g++Cc e.o++Bs e.c++Bs e.q++Bs e.s)),.pin [(F,.own 0)],.var 46 ((Ea e).map .d)]⟩) ?_ ?_
 .exact ZhQ
 refine Go ?_;refine AF [0,1] [] [] (C) Zbs rfl rfl Zbu Zbt ZbA Zbr Zbw trivial rfl ?_;rintro _ _ ⟨rfl,rfl⟩;refine Kr ?_;refine Ba (σ':=⟨[(0,.ptr 0 0),(3,.ptr 3 0)],[.var 103 [.own 1],.row 5 1 (Cy (b++Bc e.n++AQ e.cof++AQ e.g++Cc e.o++Bs e.c++Bs e.q++Bs e.s++Je e.r)),.pin [(F,.own 0)],.var 46 ((Ea e).map .d)]⟩) ?_ ?_
 .exact ZhQ
 refine ZgQ ?_;rintro _ _ ⟨rfl,rfl⟩;refine Kr ?_;refine Ba (σ':=⟨[(0,.ptr 0 0),(3,.ptr 3 0)],[.var 103 [.own 1],.row 5 1 (Cy (b++Bc e.n++AQ e.cof++AQ e.g++Cc e.o++Bs e.c++Bs e.q++Bs e.s++Je e.r++Bk FH e.a)),.pin [(F,.own 0)],.var 46 ((Ea e).map .d)]⟩) ?_ ?_
 .exact ZhQ
 refine Zfo ?_;refine AF [0,1] [] [] (Z) Zbs rfl rfl Zbu Zbt ZbA Zbr Zbw trivial rfl ?_;rintro _ _ ⟨rfl,rfl⟩;refine Kr ?_;refine Ba (σ':=⟨[(0,.ptr 0 0),(3,.ptr 3 0)],[.var 103 [.own 1],.row 5 1 (Cy (b++Bc e.n++AQ e.cof++AQ e.g++Cc e.o++Bs e.c++Bs e.q++Bs e.s++Je e.r++Bk FH e.a++Bk IZ e.sq)),.pin [(F,.own 0)],.var 46 ((Ea e).map .d)]⟩) ?_ ?_
 .exact ZhQ
 refine Zfo ?_;refine AF [0,1] [] [] (K) Zbs rfl rfl Zbu Zbt ZbA Zbr Zbw trivial rfl ?_;rintro _ _ ⟨rfl,rfl⟩;refine Kr ?_;refine Ba (σ':=⟨[(0,.ptr 0 0),(3,.ptr 3 0)],[.var 103 [.own 1],.row 5 1 (Cy (b++Bc e.n++AQ e.cof++AQ e.g++Cc e.o++Bs e.c++Bs e.q++Bs e.s++Je e.r++Bk FH e.a++Bk IZ e.sq++Bk ND e.x)),.pin [(F,.own 0)],.var 46 ((Ea e).map .d)]⟩) ?_ ?_
 .exact ZhQ
 refine Go ?_;refine AF [0,1] [] [] (L) Zbs rfl rfl Zbu Zbt ZbA Zbr Zbw trivial rfl ?_;rintro _ _ ⟨rfl,rfl⟩;refine Kr ?_;refine Ba (σ':=⟨[(0,.ptr 0 0),(3,.ptr 3 0)],[.var 103 [.own 1],.row 5 1 (Cy (b++Bc e.n++AQ e.cof++AQ e.g++Cc e.o++Bs e.c++Bs e.q++Bs e.s++Je e.r++Bk FH e.a++Bk IZ e.sq++Bk ND e.x++EB e.b)),.pin [(F,.own 0)],.var 46 ((Ea e).map .d)]⟩) ?_ ?_
 .exact ZhQ
 apply AWl.nil
 first | refine Be RetsA.none rfl ?_ rfl | refine AG RetsA.none rfl ?_ rfl
 exact⟨rfl,by simp only[KG,List.append_assoc];rfl⟩
theorem A2T(f:Fct)(h:FW f):Wr 48 (AL (EN f)) (Fz f):=Wr.intro λb E=>by
 simp only[Fz,List.length_append]at E;have g:=XT f.k h.k (b) ZbC;have u:=A1f f.c h.c (b++FA f.k) ZbC;have A:=A38 f.e h.e (b++FA f.k++IH f.c) ZbC;refine Bm Tryz.func48 rfl (Ag Tryz.func48 Zbz Zbz) rfl λB m U=>?_;rw[Tryz.ntmps48];refine ZeG ?_;rintro _ _ ⟨rfl,rfl⟩;refine Kr ?_;refine Ba (σ':=⟨[(0,.ptr 0 0),(3,.ptr 3 0)],[.var 103 [.own 1],.row 5 1 (Cy (b++FA f.k)),.pin [(m,.own 0)],.var 48 ((EN f).map .d)]⟩) ?_ ?_
 .exact ZhQ
 refine ZeK ?_;rintro _ _ ⟨rfl,rfl⟩;refine Kr ?_;refine Ba (σ':=⟨[(0,.ptr 0 0),(3,.ptr 3 0)],[.var 103 [.own 1],.row 5 1 (Cy (b++FA f.k++IH f.c)),.pin [(m,.own 0)],.var 48 ((EN f).map .d)]⟩) ?_ ?_
 .exact ZhQ
 refine ZeU ?_;rintro _ _ ⟨rfl,rfl⟩;refine Kr ?_;refine Ba (σ':=⟨[(0,.ptr 0 0),(3,.ptr 3 0)],[.var 103 [.own 1],.row 5 1 (Cy (b++FA f.k++IH f.c++KG f.e)),.pin [(m,.own 0)],.var 48 ((EN f).map .d)]⟩) ?_ ?_
 .exact ZhQ
 apply AWl.nil
 first | refine Be RetsA.none rfl ?_ rfl | refine AG RetsA.none rfl ?_ rfl
 exact⟨rfl,by simp only[Fz,List.append_assoc];rfl⟩
structure WC(g:Nat)(s s':GS):Prop where
 S:s'.S=s.S
 blk:∀b,b≠g->s'.w.heap[b]? = s.w.heap[b]?
 ty:∃cs fz,s.w.heap[g]? = some (.cells cs 335 fz)/\∀(k:Nat) u,cs[k]? = some u->∃x,u=.int .u32 x
def NW(x:D):Prop:=∀(g:Nat) (s c:GS) (v:Value),WC g s c->x.rel s v->x.rel c v
theorem A52(u:Value):NW (ex u):=λ_ _ _ _ _ h=>h
theorem A2Y{R:List D}(h:n<R.length):Df R n∈R:=by
 have:Df R n=R[n]:=by simp[Df,h]
 rw[this];exact List.getElem_mem h
theorem Lies.nwB{b o:Nat}(G:WC n s vq)(h:Lies s b o t [ex (.int .u8 a)]):Lies vq b o t [ex (.int .u8 a)]:=by
 obtain⟨Z,M,A,B⟩:=h;obtain⟨I,u,V,m,y⟩:=B 0 ZbK;have y:u=_:=y
 have F:b≠n:=λe=>by
  subst e;obtain⟨N,O,K,L⟩:=G.ty;rw[A]at K;have:=Option.some.inj K;simp only[Obj.cells.injEq]at this;obtain⟨x,E⟩:=L (o+0) u (by rw[<-this.1];exact V);rw[y]at E;cases E
 refine⟨Z,M,(G.blk b F).trans A,λk C=>?_⟩;obtain rfl:k=0:=by simp at C;omega
 exact⟨by rw[G.S];exact I,u,V,m,y⟩
theorem A5Z{b:List Nat}:NW (FC t b):=λg s E v G ⟨A, c, u, B, I, V⟩=>⟨A, c, u, B, I, λF=>by
 obtain⟨x,o,m,y⟩:=V F;refine⟨x,o,m,λk C=>⟨(y k C).1,?_⟩⟩
 obtain⟨z,K⟩:∃z:Nat,(Cy b).getD k []=[ex (.int .u8 (z:Nat))]:=by
  have L:k<b.length:=by rw[CB]at C;exact C
  refine⟨b[k],?_⟩;rw[List.getD_eq_getElem?_getD,List.getElem?_eq_getElem C];simp[Cy]
 have e:=(y k C).2;rw[K]at e ⊢;exact e.nwB G⟩
theorem A51:NW (Et t [ex (.int .u8 a)]):=λg s c v G ⟨b,o,u,A⟩=>⟨b,o,u,A.nwB G⟩
def wL(l:List Nat):List Value:=l.map λw=>.int .u32 (w:Nat)
structure WRel(base:Nat)(l:List Nat)(s:GS)(v:Value):Prop where
 own:s.w.ownsRow base 335 1 v l.length (wL l)
 sm:Bt l
 set:∀b,Dc v=some b->∀k,s.S b k
 al:∀b cs fz,Dc v=some b->s.w.heap[b]? = some (.cells cs 335 fz)->∀(k:Nat) u,cs[k]? = some u->∃x,u=.int .u32 x
theorem WRel.cases{base:Nat}{l:List Nat}{v:Value}(h:WRel base l s v):(v=.slice none 0 0/\l=[])\/∃g cap F,v=.slice (some ⟨g,0,none⟩) l.length cap/\base<=g/\s.w.heap[g]? = some (.cells F 335 (0,0))/\l.length<=cap/\cap<=maxLen/\F.size=cap/\F.toList.take l.length=wL l:=by
 rcases h.own.2 with⟨d,u⟩ | ⟨g,cap,F,d,u,e3,e4,e5,e6,e7⟩
 .exact .inl ⟨d,List.eq_nil_of_length_eq_zero u⟩
 .exact .inr ⟨g,cap,F,d,u,e3,e4,e5,by omega,by rwa [Nat.mul_one]at e7⟩
theorem WRel.lt{l:List Nat}{v:Value}(h:WRel n l s v){b:Nat}(E:Dc v=some b):b<s.w.heap.size/\n<=b/\∃Z G,s.w.heap[b]? = some (.cells Z 335 G):=by
 rcases h.cases with⟨d,_⟩ | ⟨g,cap,cur,d,e2,e3,_⟩
 .rw [d]at E;cases E
 .rw [d]at E;cases E;exact⟨Bj e3,e2,_,_,e3⟩
theorem WRel.keep{l:List Nat}{v:Value}(h:WRel n l s v)(E:∀b,Dc v=some b->vq.w.heap[b]? = s.w.heap[b]? /\ ∀k,vq.S b k↔s.S b k):WRel n l vq v:=by
 refine⟨⟨h.own.1,?_⟩,h.sm,λb u k=>((E b u).2 k).2 (h.set b u k),λb Z G u A=>h.al b Z G u ((E b u).1.symm.trans A)⟩;rcases h.own.2 with u | ⟨g,cap,cur,e1,e2,e3,e4⟩
 .exact .inl u
 .exact ZhR
def WOV(base:Nat)(v:Value)(l:List Nat):OD:=⟨λs _=>WRel base l s v,λ_ _ b=>Dc v=some b,λh E=>(WRel.lt h E).1,λh _ E=>⟨WRel.keep h E,λ_ h=>h⟩⟩
def Wc(base:Nat)(l:List Nat):OD:=⟨λs v=>WRel base l s v,λ_ v b=>Dc v=some b,λh E=>(WRel.lt h E).1,λh _ E=>⟨WRel.keep h E,λ_ h=>h⟩⟩
theorem WRel.wD{l:List Nat}{v:Value}(h:WRel n l s v):(Go.Proofs.YtcikkglcoeedlaaGreat.wD l).rel s v:=by
 refine⟨?_,h.sm⟩;rcases h.cases with⟨d,C⟩ | ⟨g,cap,cur,d,C,e3,e4,e5,e6,e7⟩
 .subst C;rw[d];exact slD.nil _ _ _
 .refine ⟨_, cap, by rw [List.length_map]; exact d, by rw [List.length_map]; exact e4, by simpa [maxLen] using e5, λA=>⟨g, 0, rfl, λk B=>?_⟩⟩
  rw[List.length_map]at B;have e:(l.map λx=>[ex (.int .u32 (x:Nat))]).getD k []=[ex (.int .u32 (l[k]:Nat))]:=by simp[B]
  rw[e];refine⟨rfl,cur,(0,0),e3,λj i=>?_⟩;obtain rfl:j=0:=by simp at i;omega
  refine⟨h.set g (by rw[d];rfl) _,.int .u32 (l[k]:Nat),?_,rfl,rfl⟩;have u:(cur.toList.take l.length)[k]? = (wL l)[k]?:=by rw[e7]
  rw[List.getElem?_take,if_pos B]at u;rw[Nat.zero_add,Nat.mul_one,Nat.add_zero,<-Array.getElem?_toList,u];simp[wL,B]
theorem WOV.nil(base:Nat)(s:GS):WRel base [] s (.slice none 0 0):=⟨⟨rfl,.inl ⟨rfl,rfl⟩⟩,(λx C=>by cases C),λb E=>(by cases E),λb Z G E=>by cases E⟩
theorem Yi{s0:An}(xc:GS.LeX s0.mine s0.g s)(T:s.Ok){t ty bytes base:Nat}(M:P.underlying t=some (.slice 335))(w:Tab P 335 d 1 bytes z)(xp:z=.int .u32 0){l:List Nat}(r:WRel base l s v)(xz:s0.g.w.heap.size<=base)(xm:base<=s0.g.w.heap.size)
  (b o c x:Nat) (C:x<4294967296) (xk:s.w.cell? ⟨b,o,none⟩=some (.int .u32 (x:Nat))) (xn:(l.length+1)*bytes<=140737488355328) (xo:l.length+1<=4611686018427387904) :
  ∃(q:Value) (F:GS),(Builtin.append_ #[t,t] ty #[v,.slice (some ⟨b,o,none⟩) 1 c]).run P s.w=.ok q F.w/\GS.LeX s0.mine s0.g F/\F.Ok/\(GS.Le s F\/∃g,Dc v=some g/\WC g s F)/\WRel base (l++[x]) F q/\(∀b,Dc q=some b->Dc v=some b\/s.w.heap.size<=b):=by
 obtain⟨i,K,f,xu,xv⟩:=w.info;subst xv;have xs:z.cells.size=1:=by rw[xp];rfl
 have xI:∀(m k:Nat) u,(Builtin.zeroCells z.cells m)[k]? = some u->∃x,u=.int .u32 x:=λm k u p=>by
  have p:=Array.mem_of_getElem? p;rw[xp,Builtin.zeroCells]at p;simp[Value.cells]at p;exact⟨0,by grind⟩
 have xN:∀(k:Nat) u,(wL l)[k]? = some u->∃x,u=.int .u32 x:=λk u p=>by
  obtain⟨y,_,N⟩:=List.mem_map.1 (List.mem_of_getElem? p);exact⟨_,N.symm⟩
 have xM:∀(k:Nat) u,([.int .u32 ((x:Nat):Int)]:List Value)[k]? = some u->∃x,u=.int .u32 x:=λk u p=>⟨_,List.mem_singleton.1 (List.mem_of_getElem? p)⟩;obtain⟨xe,xq⟩:∃xe:List Value,xe=[.int .u32 (x:Nat)]:=⟨_,rfl⟩;have L:xe.length=1*i.size:=by rw[xq,xu];rfl
 have xA:∀j u,xe[j]? = some u->s.w.cell? ((⟨b,o,none⟩:Addr).add j)=some u:=λj u O=>by
  rw[xq]at O
  match j,O with
  |0,O=>cases O;exact xk
  |j+1,O=>cases O
 have A:∀u∈xe,u.oneCell'=true:=λu p=>by rw[xq]at p;rw[List.mem_singleton.1 p];rfl
 have xH:wL (l++[x])=wL l++xe:=by rw[xq,wL,List.map_append];rfl
 have H:(wL l).length=l.length:=by simp[wL]
 have xx:(l++[x]).length=l.length+1:=by simp
 have xC:Bt (l++[x]):=λy N=>by
  rcases List.mem_append.1 N with h | h
  .exact r.sm y h
  .rw [List.mem_singleton.1 h];exact C
 have xG:s0.g.w.heap.size<=s.w.heap.size:=xc.size;have xJ:l.length+1<=maxLen:=by simp only[maxLen];omega
 have xD:∀xt,xt<l.length+1->base<=s.w.heap.size->∃F:GS,F.w=s.w.drew.alloc (.cells ((wL l).toArray++xe.toArray++Builtin.zeroCells z.cells (grownCap s.w (l.length+1) xt 335-(l.length+1))) 335)/\GS.LeX s0.mine s0.g F/\F.Ok/\GS.Le s F/\WRel base (l++[x]) F (.slice (some ⟨s.w.heap.size,0,none⟩) (l.length+1) (grownCap s.w (l.length+1) xt 335)):=by
  intro xt n xh;obtain⟨arr,xr⟩:∃arr,arr=(wL l).toArray++xe.toArray++Builtin.zeroCells z.cells (grownCap s.w (l.length+1) xt 335-(l.length+1)):=⟨_,rfl⟩;rw[<-xr];have xj:=grownCap_ge s.w (l.length+1) xt 335;have xw:grownCap s.w (l.length+1) xt 335<=maxLen:=grownCap_le_maxLen s.w (l.length+1) xt 335 xJ;have X:Ext s.w (s.w.drew.alloc (.cells arr 335)):=(Ext.refl _).drew.alloc _;have xE:(s.w.drew.alloc (.cells arr 335)).heap[s.w.heap.size]? = some (.cells arr 335 (0,0)):=heap_alloc_new s.w.drew _;have U:(s.w.drew.alloc (.cells arr 335)).heap.size=s.w.heap.size+1:=Array.size_push ..;have xa:=Gk (s:=s) X;refine⟨s.grown (s.w.drew.alloc (.cells arr 335)),rfl,xc.trans xa,xa.ok T,xa,⟨⟨by rw[xx];simp[wL],.inr ⟨s.w.heap.size,_,arr,by rw[xx],xh,xE,by rw[xx];exact xj,xw,?_,?_⟩⟩,xC,λb E k=>?_,λb Z fz E A k u p=>?_⟩⟩
  .rw [xr]
   simp only[Array.size_append,List.size_toArray,size_zeroCells,xs,H,L,xu];omega
  .rw [xr,xH]
   simp only[Array.toList_append];have:(wL l++xe).length=(l++[x]).length*1:=by rw[List.length_append,H,L,xu,xx];omega
   rw[<-this];exact List.take_left
  .have xb:some s.w.heap.size=some b:=E
   have xb:=Option.some.inj xb;subst xb;exact .inr ⟨Nat.le_refl _,by rw[U];omega⟩
  .have xb:some s.w.heap.size=some b:=E
   have xb:=Option.some.inj xb;subst xb;have A:(s.w.drew.alloc (.cells arr 335)).heap[s.w.heap.size]? = _:=A;rw[xE]at A;have:=Option.some.inj A;simp only[Obj.cells.injEq]at this;rw[<-this.1,xr]at p;rw[Array.getElem?_append]at p;split at p
   .rw [Array.getElem?_append]at p
    split at p
    .rw [List.getElem?_toArray]at p
     exact xN _ u p
    .rw [List.getElem?_toArray,xq]at p
     exact xM _ u p
   .exact xI _ _ u p
 have xh:base<=s.w.heap.size:=by omega
 rcases r.cases with⟨rfl,rfl⟩ | ⟨g,cap,xl,rfl,hbg,hg,hnc,xw,hcs,htake⟩
 .have Y:=run_append_nil (P:=P) s.w t ty 335 i z M K f ⟨b, o, none⟩ 1 c xe L xA Zbx Zbx (by have E:=xn; simp only [List.length_nil, Nat.zero_add, Nat.one_mul] at E ⊢; omega)
  obtain⟨F,G,S,e3,e4,e5⟩:=xD 0 Zbx xh;simp only[List.length_nil,Nat.zero_add,List.nil_append,Array.empty_append,wL,List.map_nil]at G e5 Y ⊢;exact ZfO
 .have xK:=r.al g xl (0,0) rfl hg
  by_cases xB:l.length+1<=cap
  .have xF:l.length*i.size+xe.length<=xl.size:=by rw [L, hcs, xu];omega
   have Y:=run_append_room (P:=P) s.w t ty 335 i M K g l.length cap xl hg ⟨b,o,none⟩ 1 c xe L xA A xB xF;obtain⟨W,J⟩:∃W,W=s.w.setRow g (xl.toList.take (l.length*i.size)++xe++xl.toList.drop (l.length*i.size+xe.length)).toArray:=⟨_,rfl⟩;rw[<-J]at Y;have xi:∀b,b≠g->W.heap[b]? = s.w.heap[b]?:=λb E=>by rw[J];exact setRow_other s.w g b _ (λe=>E e)
   have xE:W.heap[g]? = some (.cells (xl.toList.take (l.length*i.size)++xe++xl.toList.drop (l.length*i.size+xe.length)).toArray 335 (0,0)):=by rw[J];exact setRow_heap s.w g xl _ _ _ hg
   have U:W.heap.size=s.w.heap.size:=by rw[J];simp[World.setRow]
   have xf : GS.Ok ⟨s.S, s.tag, W⟩ := ⟨fun b k E => by show b < W.heap.size; rw [U]; exact T.lt b k E, fun b k ⟨Z, fz, E⟩ => by
    have E:W.heap[b]? = _:=E;by_cases e:b=g
    .subst e;exact r.set b rfl k
    .exact T.safe b k ⟨Z,fz,(xi b e).symm.trans E⟩⟩
   refine⟨_,⟨s.S,s.tag,W⟩,Y,⟨by show W.os=_;rw[J];exact xc.os,by show W.tape=_;rw[J];exact xc.tape,by show W.output=_;rw[J];exact xc.output,λk B R=>(xi k Zbx).trans (xc.block k B R),⟨by show _<=W.heap.size;omega,xc.chg.up,λa Z T' fz E=>?_⟩,xc.old,xc.tag,λ_=>xf⟩,xf,.inr ⟨g,rfl,rfl,xi,_,_,hg,xK⟩,⟨⟨by rw[xx];simp[wL],.inr ⟨g,cap,_,by rw[xx],hbg,xE,by rw[xx];exact xB,xw,?_,?_⟩⟩,xC,λb E k=>?_,λb Z fz E A k u p=>?_⟩,λb E=>.inl E⟩
   .obtain ⟨xd,xy,G,S⟩:=xc.chg.cell a Z T' fz E
    have:=Bj E;exact⟨xd,xy,(xi a Zbx).trans G,S⟩
   .simp only[List.size_toArray,List.length_append,List.length_take,List.length_drop,Array.length_toList]
    rw[xu]at xF ⊢;omega
   .have I:(l++[x]).length*1=(xl.toList.take (l.length*i.size)++xe).length:=by
     have V:xl.toList.length=xl.size:=Array.length_toList;have Q:(xl.toList.take (l.length*i.size)++xe).length=l.length+1:=by rw[List.length_append,List.length_take,L,xu];omega
     rw[Q,xx,Nat.mul_one]
    rw[I];show List.take _ (xl.toList.take (l.length*i.size)++xe++_)=_;rw[List.take_left,xH,xu,Nat.mul_one,htake]
   .have xb:some g=some b:=E
    have xb:=Option.some.inj xb;subst xb;exact r.set g rfl k
   .have xb:some g=some b:=E
    have xb:=Option.some.inj xb;subst xb;have A:W.heap[g]? = _:=A;rw[xE]at A;have:=Option.some.inj A;simp only[Obj.cells.injEq]at this;rw[<-this.1,List.getElem?_toArray]at p;have p:=List.mem_of_getElem? p;rw[List.mem_append,List.mem_append]at p;rcases p with(p | p) | p
    .obtain ⟨k',xg⟩:=List.getElem?_of_mem (List.mem_of_mem_take p)
     exact ZhS
    .obtain ⟨k',xg⟩:=List.getElem?_of_mem p
     rw[xq]at xg;exact xM k' u xg
    .obtain ⟨k',xg⟩:=List.getElem?_of_mem (List.mem_of_mem_drop p)
     exact ZhS
  .have xL:∀j u,(wL l)[j]? = some u->s.w.cell? ((⟨g,0,none⟩:Addr).add j)=some u:=r.own.cells (g:=g) rfl
   have Y:=run_append_grow (P:=P) s.w t ty 335 i z M K f ⟨g,0,none⟩ l.length cap (wL l) (by rw[H,xu,Nat.mul_one]) xL ⟨b,o,none⟩ 1 c xe L xA Zbx Zbx (growslice_fits Zbx xn);obtain⟨F,G,S,e3,e4,e5⟩:=xD cap Zbx xh;exact ZfO
def AV.nw(id:Nat):AV->Prop
 |.d x=>NW x
 |.ptr i _=>i≠id
 |.own i=>i≠id
 |.fn _ M=>id∉M
def Ow.nw(id:Nat):Ow->Prop
 |.dead=>True
 |.var _ cells=>∀H∈cells,H.nw id
 |.row _ _ P=>∀r∈P,∀d∈r,NW d
 |.obj _=>False
 |.pin l=>∀p∈l,p.2.nw id
theorem StI.words{s0:An}{id base:Nat}{l J:List Nat}(h:StI s0 n ⟨vd,H⟩ vi s vg)(xd:H[id]? = some (.obj (WOV base z l)))(hF:∀p∈vd,p.2.nw id)(hM:∀i o,i≠id->H[i]? = some o->o.nw id)(q1:GS.LeX s0.mine s0.g vq)(q2:vq.Ok)(q3:GS.Le s vq\/∃g,Dc z=some g/\WC g s vq)(q4:WRel base J vq v)(q5:∀b,Dc v=some b->Dc z=some b\/s.w.heap.size<=b) :
  StI s0 n ⟨vd,H.set id (.obj (Wc base J))⟩ vi vq (λi=>if i=id then v else vg i):=by
 have w:(H.set id (.obj (Wc base J))).length=H.length:=by simp
 have xi:id<H.length:=BV xd;have xo:WRel base l s z:=h.hp id _ xd
 have hA:∀X u,X.nw id->AVr H.length vg s X u->AVr H.length (λi=>if i=id then v else vg i) vq X u:=λX u L a=>by
  cases X with
  |d x=>exact q3.elim (λk=>x.st a k.chg) λ⟨g,_,k⟩=>L g s vq u k a
  |ptr i off=>
   have L:i≠id:=L;obtain⟨A,b,B,I⟩:=a;exact⟨A,b,(show(if i=id then v else vg i)=_ by rw[if_neg L];exact B),I⟩
  |own i=>
   have L:i≠id:=L;exact⟨a.1,(show u=(if i=id then v else vg i)by rw[if_neg L];exact a.2)⟩
  |fn f xb=>
   have L:id∉xb:=L;exact⟨a.1,by rw[a.2,List.map_congr_left λi K=>(if_neg λe=>L (by rw[<-e];exact K):(if i=id then v else vg i)=vg i)]⟩
 have hB:∀b,b<s.w.heap.size->(∀Z fz,s.w.heap[b]? ≠ some (.cells Z 335 fz))->vq.w.heap[b]? = s.w.heap[b]? /\ ∀k,vq.S b k↔s.S b k:=λb F xa=>by
  rcases q3 with k | ⟨g,hg,k⟩
  .exact ⟨k.ext.block F,λj=>⟨k.old b j F,k.up b j⟩⟩
  .obtain ⟨Z,fz,e,_⟩:=k.ty
   have xr:b≠g:=λe'=>xa Z fz (by rw[e'];exact e);exact⟨k.blk b xr,λj=>by rw[k.S]⟩
 have hO:∀i o,i≠id->H[i]? = some o->OwR 0 H.length (λi=>if i=id then v else vg i) vq i o:=λi o K R=>by
  have L:=hM i o K R;have Y:=h.hp i o R
  cases o with
  |dead=>trivial
  |var T cells=>
   obtain⟨b,Z,A,B,I,V,m,W,c⟩:=Y
   obtain⟨G,S⟩:=hB b (Bj I) λxe xq e=>by
    rw[I]at e;have:=Option.some.inj e;simp only[Obj.cells.injEq]at this;exact m this.2.1
   refine⟨b,Z,(show(if i=id then v else vg i)=_ by rw[if_neg K];exact A),B,G.trans I,V,m,λk C=>W k ((S k).1 C),λk X C=>?_⟩;obtain⟨u,U,h9,xc⟩:=c k X C;exact⟨u,U,h9,hA X u (L X (List.mem_of_getElem? C)) xc⟩
  |row T q P=>
   obtain⟨r,⟨A,B⟩,I,V,m,W⟩:=Y
   have xk:∀b,Dc (vg i)=some b->vq.w.heap[b]? = s.w.heap[b]? /\ ∀k,vq.S b k↔s.S b k:=λb F=>by
    rcases B with⟨G,_⟩ | ⟨g,cap,cur,G,S,e3,e4⟩
    .rw [G]at F;cases F
    .rw [G]at F
     cases F
     exact hB g (Bj e3) λxe xq e=>by
      rw[e3]at e;have:=Option.some.inj e;simp only[Obj.cells.injEq]at this;exact I this.2.1
   refine⟨r,⟨A,?_⟩,I,V,λb F k=>?_,λk C=>⟨(W k C).1,λj Q=>?_⟩⟩
   .have xt:(λi=>if i=id then v else vg i) i=vg i:=if_neg K
    rw[xt];rcases B with B | ⟨g,cap,cur,G,S,e3,e4⟩
    .exact .inl B
    .exact .inr ⟨g,cap,cur,G,S,(xk g (by rw[G];rfl)).1.trans e3,e4⟩
   .have F:Dc (if i=id then v else vg i)=some b:=F
    rw[if_neg K]at F;exact((xk b F).2 k).trans (m b F k)
   .obtain ⟨u,U,h9,xc⟩:=(W k C).2 j Q
    have xp:(P.getD k [])∈P:=by
     rw[List.getD_eq_getElem?_getD,List.getElem?_eq_getElem C];exact List.getElem_mem C
    have xh:j<(P.getD k []).length:=by rw[(W k C).1];exact Q
    exact⟨u,U,h9,hA (.d (Df (P.getD k []) j)) u (L _ xp _ (A2Y xh)) xc⟩
  |obj O=>exact L.elim
  |pin l=>exact λp H=>hA p.2 p.1 (L p H) (Y p H)
 have xg:∀i o,(H.set id (.obj (Wc base J)))[i]? = some o->(i=id/\o=.obj (Wc base J))\/(i≠id/\H[i]? = some o):=λi o R=>by
  rw[List.getElem?_set]at R;split at R
  .rename_i e
   try rw[if_pos Zbx]at R
   exact .inl ⟨e.symm,(Option.some.inj R).symm⟩
  .rename_i e
   exact .inr ⟨λe'=>e e'.symm,R⟩
 have xm:∀i o b,i≠id->H[i]? = some o->OwB vq (if i=id then v else vg i) o b->OwB s (vg i) o b:=λi o b K R F=>by
  rw[if_neg K]at F
  cases o with
  |obj O=>exact(hM i _ K R).elim
  |_=>exact F
 refine⟨q1,q2,λt X M=>?_,h.sz,h.df,λi o R=>?_,λi j x y xf E N b xl xj=>?_,λi o b R F=>?_⟩
 .rw [show(⟨vd,H.set id (.obj (Wc base J))⟩:AS).hp.length=H.length from w]
  exact hA X _ (hF (t,X) (Ed M)) (h.fr t X M)
 .rw [show(⟨vd,H.set id (.obj (Wc base J))⟩:AS).hp.length=H.length from w]
  rcases xg i o R with⟨rfl,rfl⟩ | ⟨K,R⟩
  .show WRel base J vq (if i=i then v else vg i)
   rw[if_pos rfl];exact q4
  .exact hO i o K R
 .rcases xg i x E with⟨rfl,rfl⟩ | ⟨K,hx'⟩<;>rcases xg j y N with⟨rfl,rfl⟩ | ⟨Q,hy'⟩
  .exact xf rfl
  .have xl:Dc (if i=i then v else vg i)=some b:=xl
   rw[if_pos rfl]at xl;have xn:=xm j y b Q hy' xj;rcases q5 b xl with A | A
   .exact h.sep i j _ y xf xd hy' b A xn
   .have:=(h.hp j y hy').blk_lt0 xn
    omega
  .have xj:Dc (if j=j then v else vg j)=some b:=xj
   rw[if_pos rfl]at xj;have xn:=xm i x b K hx' xl;rcases q5 b xj with A | A
   .exact h.sep i j x _ xf hx' xd b xn A
   .have:=(h.hp i x hx').blk_lt0 xn
    omega
  .exact h.sep i j x y xf hx' hy' b (xm i x b K hx' xl) (xm j y b Q hy' xj)
 .rcases xg i o R with⟨rfl,rfl⟩ | ⟨K,R⟩
  .have F:Dc (if i=i then v else vg i)=some b:=F
   rw[if_pos rfl]at F;rcases q5 b F with A | A
   .exact h.own i _ b xd A
   .exact .inr (Nat.le_trans h.le.size A)
  .exact h.own i o b R (xm i o b K R F)
theorem A08{s0:An}{o:Oper}{id base m bytes b0 x:Nat}{l:List Nat}{T k:Operand}(F:o.op=.call { callee:=.builtin .append,args:=#[T,k],argTypes:=#[t,t] })(h:StI s0 n ⟨vd,H⟩ vi s vg)(I:H[id]? = some (.obj (WOV base v l)))(hF:∀p∈vd,p.2.nw id)(Q:∀i o,i≠id->H[i]? = some o->o.nw id)(xa:s0.g.w.heap.size<=base)(f:base<=s0.g.w.heap.size)(C:vi.eval T=v)(N:(slD U 1 [[ex (.int .u32 (x:Nat))]]).rel s (vi.eval k))(W:x<4294967296)(M:Tab P t (.slice 335) m b0 z)(g:Tab P 335 d 1 bytes ui)(w:ui=.int .u32 0)(j:(l.length+1)*bytes<=140737488355328)(r:l.length+1<=4611686018427387904) :
  RegG.OpStep P o vi.eval s λu B=>∃G,StI s0 n ⟨vd,H.set id (.obj (Wc base (l++[x])))⟩ vi B G/\AVr H.length G B (.own id) u:=by
 obtain⟨A,c,E,e,y,Z⟩:=N;obtain⟨b,p,rfl,V⟩:=Z ZbK;obtain⟨_,L⟩:=V 0 ZbK;obtain⟨u,J,_,a⟩:=L.cell (k:=0) ZbK;have a:u=_:=a;subst a;obtain⟨R,B,Y,O,K,S,X,q⟩:=Yi (P:=P) (t:=t) (ty:=o.type) h.le h.ok M.und g w (h.hp id _ I) xa f b p c x W (by simpa using J) j r
 have xb:(execOp vi.eval o).run P s.w=.ok (.value R) B.w:=by
  simp only[execOp,F,resolve,invoke,builtin,Sem.run_bind,Sem.run_pure,Result.andThen_ok,List.map_toArray,List.map_cons,List.map_nil,C,E];simp only[List.length_cons,List.length_nil,Nat.zero_add]at Y ⊢;rw[Y];rfl
 refine JK xb B rfl ⟨_,h.words I hF Q O K S X q,BV I,(if_pos rfl).symm⟩
def AllNw(id c:Nat)(h:List Nat):Nat->List AV->Prop
 |_,[]=>True
 |i,r::N=>(Nat.beq i c=true\/h.contains i=true\/r.nw id)/\AllNw id c h (i+1) N
theorem AllNw.nil{id c i:Nat}{h:List Nat}:AllNw id c h i []:=trivial
theorem AllNw.c{id c i:Nat}{u:List Nat}{r:AV}{N:List AV}(h:Nat.beq i c=true)(b:AllNw id c u (i+1) N):AllNw id c u i (r::N):=⟨.inl h,b⟩
theorem AllNw.l{id c i:Nat}{u:List Nat}{r:AV}{N:List AV}(h:u.contains i=true)(b:AllNw id c u (i+1) N):AllNw id c u i (r::N):=⟨.inr (.inl h),b⟩
theorem AllNw.x{id c i:Nat}{h:List Nat}{v:Value}{N:List AV}(b:AllNw id c h (i+1) N):AllNw id c h i (.d (ex v)::N):=⟨.inr (.inr (A52 v)),b⟩
theorem AllNw.b{id c i:Nat}{h:List Nat}{T:TypeId}{l:List Nat}{N:List AV}(b:AllNw id c h (i+1) N):AllNw id c h i (.d (FC T l)::N):=⟨.inr (.inr A5Z),b⟩
theorem AllNw.e{id c i:Nat}{h:List Nat}{z:Int}{N:List AV}(b:AllNw id c h (i+1) N):AllNw id c h i (.d (Et t [ex (.int .u8 z)])::N):=⟨.inr (.inr A51),b⟩
theorem AllNw.p{id c i j off:Nat}{u:List Nat}{N:List AV}(h:Nat.beq j id=false)(b:AllNw id c u (i+1) N):AllNw id c u i (.ptr j off::N):=⟨.inr (.inr (Nat.ne_of_beq_eq_false h)),b⟩
theorem AllNw.o{id c i j:Nat}{u:List Nat}{N:List AV}(h:Nat.beq j id=false)(b:AllNw id c u (i+1) N):AllNw id c u i (.own j::N):=⟨.inr (.inr (Nat.ne_of_beq_eq_false h)),b⟩
theorem AllNw.get{id c:Nat}{B:List Nat}:∀{N:List AV} {j:Nat},AllNw id c B j N->∀(i:Nat) r,N[i]? = some r->j+i≠c->j+i∉B->r.nw id
 |[],_,_,_,_,h,_,_=>by cases h
 |x::N,j,⟨u,_⟩,0,r,h,G,L=>by
  cases h;rcases u with u | u | u
  .exact absurd (Nat.eq_of_beq_eq_true u) G
  .exact absurd (by simpa using u) L
  .exact u
 |x::N,j,⟨_,A⟩,i+1,r,h,G,L=>AllNw.get A i r ZcK Zeh (by rw[Nat.add_assoc,Nat.add_comm 1];exact L)
def MemNw(id:Nat):Nat->List Ow->Prop
 |_,[]=>True
 |i,o::F=>(Nat.beq i id=true\/o.nw id)/\MemNw id (i+1) F
theorem MemNw.nil{id i:Nat}:MemNw id i []:=trivial
theorem A3n{id i:Nat}{o:Ow}(h:Nat.beq i id=true)(b:MemNw id (i+1) H):MemNw id i (o::H):=⟨.inl h,b⟩
theorem A3m{id i T:Nat}{Z:List AV}(h:AllNw id Z.length [] 0 Z)(b:MemNw id (i+1) H):MemNw id i (.var T Z::H):=⟨.inr λu K=>by
 obtain⟨k,B⟩:=List.getElem?_of_mem K;have:=(List.getElem?_eq_some_iff.1 B).1;exact h.get k u B Zbx ZbK,b⟩
theorem MemNw.p{id i:Nat}{l:List (Value×AV)}(h:AllNw id l.length [] 0 (l.map (·.2)))(b:MemNw id (i+1) H):MemNw id i (.pin l::H):=⟨.inr λp r=>by
 obtain⟨k,B⟩:=List.getElem?_of_mem r;have:=(List.getElem?_eq_some_iff.1 B).1;exact h.get k p.2 (by rw[List.getElem?_map,B];rfl) Zbx ZbK,b⟩
theorem MemNw.get{id:Nat}:∀{F:List Ow} {j:Nat},MemNw id j F->∀(i:Nat) o,F[i]? = some o->j+i≠id->o.nw id
 |[],_,_,_,_,h,_=>by cases h
 |x::N,j,⟨u,_⟩,0,r,h,G=>by
  cases h;exact u.elim (λu=>absurd (Nat.eq_of_beq_eq_true u) G) λh=>h
 |x::N,j,⟨_,A⟩,i+1,r,h,G=>MemNw.get A i r ZcK Zeh
theorem DTurn.words{s0:An}{id base m bytes T x c:Nat}{l:List Nat}{J b:Operand}{O:List AV}{E:List (Nat×Nat)}{e:Option Tmp}{ty:TypeId}{X:String}{Z:Array Edge}{j:Option (Nat×Bool)}(Q:H[id]? = some (.obj (WOV base v l)))
  (C:Eo ⟨vd,Dl H id (.obj (WOV base v l)) (.obj (Wc base (l++[x]))) false⟩ (O.map HR.av) E J=.d (ex v)) (N:Eo ⟨vd,Dl H id (.obj (WOV base v l)) (.obj (Wc base (l++[x]))) false⟩ (O.map HR.av) E b=.d (slD U 1 [[ex (.int .u32 (x:Nat))]]))
  (M:Tab P t (.slice 335) m T z) (g:Tab P 335 d 1 bytes ui) (y:ui=.int .u32 0) (B:AllNw id c f 0 O) (L:AllNw id vd.length [] 0 (vd.map (·.2))) (R:MemNw id 0 H) (xb:s0.g.w.heap.size=base) (W:x<4294967296) (Y:(l.length+1)*bytes<=140737488355328) (q:l.length+1<=4611686018427387904) :
  DTurn P s0 n vd H id (.obj (WOV base v l)) (.obj (Wc base (l++[x]))) O f c E ⟨e,.call { callee:=.builtin .append,args:=#[J,b],argTypes:=#[t,t] },ty,X,Z,j⟩ (.own id):=λF hF s S a w xa=>by
 have xc:Dl H id (.obj (WOV base v l)) (.obj (Wc base (l++[x]))) false=H:=by
  unfold Dl;apply List.ext_getElem?;intro i;rw[List.getElem?_set];split
  .rename_i h
   subst h;rw[Q]
   try rw[if_pos (BV Q)]
   rfl
  .rfl
 have xd:=xa J Zcv;have xe:=xa b Zcv;rw[C]at xd;rw[N]at xe;rw[xc]at w
 have:=A08 (P:=P) (o:=⟨e,.call { callee:=.builtin .append,args:=#[J,b],argTypes:=#[t,t] },ty,X,Z,j⟩) rfl w Q (λp r=>by
  rcases hF p r with⟨i,u,A,I⟩ | h
  .exact B.get i p.2 I Zbx (by rw[Nat.zero_add];exact A)
  .obtain ⟨k,V⟩:=List.getElem?_of_mem h
   have:=(List.getElem?_eq_some_iff.1 V).1;exact L.get k p.2 (by rw[List.getElem?_map,V];rfl) Zbx ZbK) (λi o K G=>R.get i o G Zbx) Zbx Zbx (exD xd) xe W M g y Y q
 exact this
theorem Xc{s0:An}(base:Nat)(u:Fk H (.obj (WOV base (.slice none 0 0) []))=some vw)(k:AWp P s0 n vn vl ⟨vd,vw⟩):AWp P s0 n vn vl ⟨vd,H⟩:=by
 rw[Ex u]at k;refine⟨λa w ⟨s,S,V,A⟩=>?_⟩;have:=A.new (GS.Le.refl s) (dst:=none) (v:=undef) (u:=undef) (r:=.d Cw) (ow:=.obj (WOV base (.slice none 0 0) [])) (λd W=>by cases W) trivial (WOV.nil base s) (λb E=>by cases E);exact Zhy
theorem ZX{s0:An}(id base:Nat)(l:List Nat)(B:H[id]? = some (.obj (Wc base l)))(k:∀v,AWp P s0 n vn vl ⟨vd.map λp=>(p.1,down id (ex v) p.2),(H.map (Ow.mapA (down id (ex v)))).set id (.obj (WOV base v l))⟩):AWp P s0 n vn vl ⟨vd,H⟩:=by
 refine⟨λa w ⟨s,S,V,u⟩=>(k (S id)).run a w ⟨s,S,V,?_⟩⟩
 exact u.upd (s':=s) u.le u.ok (GS.Chg.refl s) (id:=id) (o':=.obj (WOV base (S id) l)) (ρ':=S) (f:=down id (ex (S id))) B (λb _ _=>⟨rfl,λ_=>Iff.rfl⟩) (λ_ _=>rfl) (show WRel base l s (S id)from u.hp id _ B) (λb E=>.inl E) λA v K=>ZaZ
theorem AVle.words{m id base:Nat}{l:List Nat}(A:H[id]? = some (.obj (WOV base z l))):AVle H m (.d (ex z)) (.d (wD l)):=λb S s u i M=>by
 have M:u=z:=M;rw[M];exact WRel.wD (i id _ A)
theorem A3l{i base:Nat}{l:List Nat}(h:H[i]? = some (.obj (Wc base l))):One H (.own i):=λb S s v A ⟨_,o⟩=>by
 have u:WRel base l s (S i):=A i _ h;rcases u.cases with⟨d,_⟩ | ⟨g,cap,cur,d,_⟩<;>rw[o,d]<;>rfl
end Go.Proofs.YtcikkglcoeedlaaGreat
