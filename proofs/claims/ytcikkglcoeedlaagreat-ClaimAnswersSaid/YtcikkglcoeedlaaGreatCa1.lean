/- Part 1 of the proof of claimAnswers_holds. No condition. -/
import Derived.BigQuiet
import Derived.Deep.QuietTactic
import Derived.Deep.RegionHeld3
import Derived.Laws.AppendOwnNone
import Derived.Test.YtcikkglcoeedlaaGreatRows
import Derived.WalkKit
import Derived.WalkLawsBesides
import Derived.WalkSpells
set_option linter.unusedSimpArgs false
set_option linter.unusedVariables false
set_option maxRecDepth 100000
set_option maxHeartbeats 800000
namespace Go.Proofs
structure Zaa(q:Prop):Prop where
 a:q
section
variable{p q:Prop}
theorem Zbb(h:p:=by
 rw [if_neg F]at R
 refine Wa<|Y0<|Ao<|Y1<|Wm<|Wm ?_;refine Wq (BN (ao rfl)) ?_;refine Wq AF ?_;refine Wq BT ?_;refine Wq (CW (ao rfl) (Aa rfl)) ?_;refine Wq (AC (r:=((o.length:Nat):Int)) (ao rfl) (Aa rfl) (Aa rfl) (Ec ZbK)) ?_;refine Wq Bj ?_;refine Y0<|Ct<|AWp.region ?_;refine Wq (DU (ao rfl) (Aa rfl)) ?_
 refine CR (ao rfl) ?_;exact(by repeat (first | exact AB (R) | apply As | apply PanQ.block | apply PanQ.loop):PanQ _ _) _):p:=h
theorem Zbt(h:p:=by
 by_cases f:kind=7
 .subst f
  refine Go ?_;refine Dy 7 ?_;refine Cw ?_;refine Go ?_;exact Ak (Rets.of2 (ResV.tmp rfl rfl) (ResV.tmp rfl rfl) (Bb (Ac ZcG) (Ac ZcH)))
 by_cases J:kind=8
 .subst J
  refine Go ?_;refine Dy 7 ?_;refine Cw ?_;refine Go ?_;exact Ak (Rets.of2 (ResV.tmp rfl rfl) (ResV.tmp rfl rfl) (Bb (Ac ZcG) (Ac ZcH)))
 by_cases a:kind=9
 .subst a
  refine Go ?_;exact Ak (Rets.of2 (ResV.tmp rfl rfl) (ResV.tmp rfl rfl) (Bb (Ac ZcG) (Ac ZcH)))
 by_cases G:kind=13
 .subst G
  refine Go ?_;exact Ak (Rets.of2 (ResV.tmp rfl rfl) (ResV.tmp rfl rfl) (Bb (Ac ZcG) (Ac ZcH)))
 by_cases E:kind=12
 .subst E
  refine Go ?_;refine Dy 3 ?_;refine Cw ?_;refine Go ?_;exact Ak (Rets.of2 (ResV.tmp rfl rfl) (ResV.tmp rfl rfl) (Bb (Ac ZcG) (Ac ZcH)))
 refine Go ?_;exact Ak (Rets.of2 (ResV.tmp rfl rfl) (ResV.tmp rfl rfl) (Bb (Ac ZcG) (Ac ZcH)))):p:=h
theorem Zak(h:p:=by
 obtain⟨A,B⟩:=h
 refine⟨?_,usteps_steps H xq (i:=i+1) (λk=>by
  have:=U (k+1);rw[show i+1+k=i+(k+1)by omega,<-this];rfl) (λk=>by
  have:=s (k+1);rw[show i+1+k=i+(k+1)by omega,<-this];rfl) (by simpa using M) B⟩
 intro g w W S C xn xl K Y;have Z:L0[i]? = some o:=by have:=U 0;simpa using this.symm
 have E:sh[i]? = some ⟨e,b,[i]⟩:=by have:=s 0;simpa[Fc]using this.symm
 have xm:∀j,j∈b->∀G,Fs[j]? = some G->G (g j) w:=λj R G hG=>by
  have xa:∃y,sh[j]? = some y:=by
   cases O:sh[j]? with
   |some y=>exact⟨y,rfl⟩
   |none=>
    exfalso;have I:=R;have u:=(Cq H Z).2.1 _ E;simp only[Et,Bool.and_eq_true]at u;have N:=List.all_eq_true.1 u.1.1.1.1.1 j I;obtain⟨e',xc,xd⟩:=List.any_eq_true.1 N;have Q:=(Cq H Z).1 e' xc;simp only[Bool.or_eq_true,beq_iff_eq]at xd;have xb:=DZ E;rw[List.getElem?_eq_none_iff]at O;rcases xd with rfl | xd
    .omega
    .
     have key:∀(n:Nat) (y:Shape) (oy:Oper),sh[n]? = some y->L0[n]? = some oy->∀m∈y.bef,m<n:=by
      intro n
      induction n using Nat.strongRecOn with
      |_ n z=>
       intro y oy O xp m d;have xo:=(Cq H xp).2.1 y O;simp only[Et,Bool.and_eq_true]at xo;have V:=List.all_eq_true.1 xo.1.1.1.1.1 m d;obtain⟨f,xd,xh⟩:=List.any_eq_true.1 V;have xf:=(Cq H xp).1 f xd;simp only[Bool.or_eq_true,beq_iff_eq]at xh;rcases xh with rfl | xh
       .exact xf
       .cases xg:sh[f]? with
        |none=>simp[CT,xg]at xh
        |some y2=>
         have xi:f<L0.length:=Nat.lt_of_lt_of_le (DZ xg) (Da H);have:=z f xf y2 _ xg (List.getElem?_eq_getElem xi) m (by simpa[CT,xg]using xh);omega
     have:=key i _ o E Z j R;omega
  obtain⟨y,O⟩:=xa;have:=C _ E j R y (unF G) O (by rw[List.getElem?_map,hG];rfl);rw[xq j y O]at this;exact this
 have xt:OpsKnown Fs W w e:=by
  have xk:∀p∈e,p.2∈b:=λp J=>(Gu H E Z J).1;have xr:Sp W g e:=xn;clear E xl A xn s M
  induction e with
  |nil=>trivial
  |cons p e z=>
   obtain⟨t,j⟩:=p;obtain⟨q1,q2⟩:=xr;exact⟨λG hG=>by rw[q1];exact xm j (xk (t,j) ZbV) G hG,z (λp J=>xk p (by simp[J])) q2⟩
 have:=A w W S xt xl K Y;have xj:∀v,unF F ([i].map (upd g i v))=F v:=λv=>by funext w;simp[unF,upd]
 cases l:o.guard with
 |none=>
  rw[l]at this;refine⟨λ_=>?_,λq=>by simp[Ew,l]at q⟩;simp only[xj];exact this
 |some jb=>
  obtain⟨j,c⟩:=jb;rw[l]at this
  have xs:j∈b:=by
   have u:=(Cq H Z).2.1 _ E;simp only[Et,Bool.and_eq_true]at u;have N:=u.1.2;rw[l]at N;simp only[Bool.and_eq_true]at N;simpa using N.1.1
  obtain⟨t1,t2⟩:=this (g j) (λG hG=>xm j xs G hG);refine⟨λq=>?_,λq=>?_⟩
  .simp only[xj]
   refine t1 ?_;simp only[Ew,l]at q;split at q
   .rename_i r xe;rw[xe];congr 1;simpa using q
   .cases q
  .simp only[xj]
   refine t2 λe'=>?_;simp[Ew,l,e']at q):p:=h
theorem ZaV(h:p:=by
 rintro P _ ⟨k,C,rfl,rfl⟩;by_cases Q:k<l.length
 .have C:=W k Q
  have J:=CJ Cm Q;have Z:=CG (b++Bo N++(l.take k).flatMap Cm);rw[List.length_append,List.length_append]at Z;have E:(Cm (l.getD k 0)).length=4:=rfl;have o:(CE (Cm (l.getD k 0))).length=4:=rfl;replace J:((l.take k).flatMap Cm).length+(Cm (l.getD k 0)).length<=(l.flatMap Cm).length:=J;obtain⟨w,G⟩:∃w,w=l.getD k 0:=⟨_,rfl⟩;refine Go ?_;refine Wq (BN (ao rfl)) ?_;refine Go ?_;refine Wq (DO (n:=24) (r:=((l.getD k 0/16777216:Nat):Int)) (ao rfl) (ao rfl) ZbN (Eg ZbN)) ?_;refine Wq (AC (r:=((l.getD k 0/16777216%256:Nat):Int)) (ao rfl) (Aa rfl) (Aa rfl) Zcv) ?_;refine Wm ?_;refine Wq (DO (n:=16) (r:=((l.getD k 0/65536:Nat):Int)) (ao rfl) (ao rfl) ZbN (Eg ZbN)) ?_;refine Wq (AC (r:=((l.getD k 0/65536%256:Nat):Int)) (ao rfl) (Aa rfl) (Aa rfl) Zcv) ?_;refine Wm ?_;refine Wq (DO (n:=8) (r:=((l.getD k 0/256:Nat):Int)) (ao rfl) (ao rfl) ZbN (Eg ZbN)) ?_;refine Wq (AC (r:=((l.getD k 0/256%256:Nat):Int)) (ao rfl) (Aa rfl) (Aa rfl) Zcv) ?_;refine Wm ?_;refine Wq (AC (r:=((l.getD k 0%256:Nat):Int)) (ao rfl) (Aa rfl) (Aa rfl) Zcv) ?_;(refine CU rfl rfl ?_;(refine Dj (Aa rfl) (Aa rfl) rfl rfl rfl rfl rfl ?_;(repeat ((first | refine⟨_,AA (ao rfl),?_⟩ | refine⟨_,Po rfl,?_⟩);refine⟨_,rfl,?_⟩));refine⟨_,rfl,?_⟩));(refine Mv (r2:=CE (Cm (l.getD k 0))) (ao rfl) rfl rfl (Aa rfl) (Aa rfl) rfl rfl ZeE ZeE rfl Zct rfl ?_);refine Wq (BN (ao rfl)) ?_;refine Wq AF ?_;refine FI (ao rfl) (ao rfl) rfl (Aa rfl) Zdu rfl rfl ?_;refine Go ?_;refine Am (l.length-(k+1)) ZbK ⟨k+1,by omega,rfl,rfl⟩ ?_;exact Ad Zee (by refine HpLe.cons (Af rfl) ?_;(refine HpLe.cons (OwLe.row (LQ ZeW)) ?_);exact HpLe.cons (Aj rfl)<|HpLe.nil)
 .obtain rfl:k=l.length:=by omega
  refine Go ?_
  first | refine Be RetsA.none rfl ?_ rfl | refine AE RetsA.none rfl ?_ rfl
  exact⟨rfl,by rw[i,List.take_length,List.append_assoc];rfl⟩):p:=h
theorem Zbg(h:p:=by
 rintro P _ ⟨k,C,rfl,rfl⟩;by_cases Q:k<l.length
 .have C:=W k Q
  have J:=CJ Cm Q;have Z:=CG (b++Bo N++(l.take k).flatMap Cm);rw[List.length_append,List.length_append]at Z;have B:(Cm (l.getD k 0)).length=4:=rfl;have o:(CE (Cm (l.getD k 0))).length=4:=rfl;replace J:((l.take k).flatMap Cm).length+(Cm (l.getD k 0)).length<=(l.flatMap Cm).length:=J;refine Go ?_;refine Wq (DO (n:=24) (r:=((l.getD k 0/16777216:Nat):Int)) (ao rfl) (ao rfl) ZbN (Eg ZbN)) ?_;refine Wq (AC (r:=((l.getD k 0/16777216%256:Nat):Int)) (ao rfl) (Aa rfl) (Aa rfl) Zcv) ?_;refine Wm ?_;refine Wq (DO (n:=16) (r:=((l.getD k 0/65536:Nat):Int)) (ao rfl) (ao rfl) ZbN (Eg ZbN)) ?_;refine Wq (AC (r:=((l.getD k 0/65536%256:Nat):Int)) (ao rfl) (Aa rfl) (Aa rfl) Zcv) ?_;refine Wm ?_;refine Wq (DO (n:=8) (r:=((l.getD k 0/256:Nat):Int)) (ao rfl) (ao rfl) ZbN (Eg ZbN)) ?_;refine Wq (AC (r:=((l.getD k 0/256%256:Nat):Int)) (ao rfl) (Aa rfl) (Aa rfl) Zcv) ?_;refine Wm ?_;refine Wq (AC (r:=((l.getD k 0%256:Nat):Int)) (ao rfl) (Aa rfl) (Aa rfl) Zcv) ?_;(refine CU rfl rfl ?_;(refine Dj (Aa rfl) (Aa rfl) rfl rfl rfl rfl rfl ?_;(repeat ((first | refine⟨_,AA (ao rfl),?_⟩ | refine⟨_,Po rfl,?_⟩);refine⟨_,rfl,?_⟩));refine⟨_,rfl,?_⟩));(refine DV (r2:=CE (Cm (l.getD k 0))) (ao rfl) rfl rfl (Aa rfl) (Aa rfl) rfl rfl ZeE ZeE rfl ZbO rfl ?_);refine Go ?_;refine Am (l.length-(k+1)) ZbK ⟨k+1,by omega,rfl,rfl⟩ ?_;exact Ad Zca (by(refine HpLe.cons (OwLe.row (LQ ZeW)) ?_);exact HpLe.cons (Aj rfl)<|HpLe.cons (Af rfl)<|HpLe.nil)
 .obtain rfl:k=l.length:=by omega
  refine Go ?_
  first | refine Be (RetsA.one rfl) rfl ?_ rfl | refine AE (RetsA.one rfl) rfl ?_ rfl
  exact⟨rfl,by rw[i,List.take_length,List.append_assoc];rfl⟩):p:=h
theorem ZaX(h:p:=by
 obtain rfl:k=L.length:=by omega
 refine Go ?_
 first | refine Be RetsA.none rfl ?_ rfl | refine AE RetsA.none rfl ?_ rfl
 exact⟨rfl,by rw[List.take_length,Bn,<-List.append_assoc];rfl⟩):p:=h
theorem Zba(h:p:=by
 obtain rfl:k=n:=by omega
 rw[Nat.sub_self]at b;refine Go ?_;refine FinP.ret (RetsA.d (Ah (ResV.tmp rfl rfl) (D.le.refl _))) rfl ?_ rfl;exact⟨Z,g,by rw[R,b];simp[BU,BY],J,rfl,rfl⟩):p:=h
theorem Zbu(h:p:=by
 refine Dy 12 ?_;refine Cw ?_;refine Go ?_;by_cases k:kind=6
 .subst k
  refine Go ?_;refine Dy 5 ?_;refine Cw ?_;refine Go ?_;exact Ak (Rets.of2 (ResV.tmp rfl rfl) (ResV.tmp rfl rfl) (Bb (Ac ZcG) (Ac ZcH)))
 by_cases f:kind=7
 .subst f
  refine Go ?_;refine Dy 7 ?_;refine Cw ?_;refine Go ?_;exact Ak (Rets.of2 (ResV.tmp rfl rfl) (ResV.tmp rfl rfl) (Bb (Ac ZcG) (Ac ZcH)))
 by_cases J:kind=8
 .subst J
  refine Go ?_;refine Dy 7 ?_;refine Cw ?_;refine Go ?_;exact Ak (Rets.of2 (ResV.tmp rfl rfl) (ResV.tmp rfl rfl) (Bb (Ac ZcG) (Ac ZcH)))
 by_cases a:kind=9
 .subst a
  refine Go ?_;exact Ak (Rets.of2 (ResV.tmp rfl rfl) (ResV.tmp rfl rfl) (Bb (Ac ZcG) (Ac ZcH)))
 by_cases G:kind=13
 .subst G
  refine Go ?_;exact Ak (Rets.of2 (ResV.tmp rfl rfl) (ResV.tmp rfl rfl) (Bb (Ac ZcG) (Ac ZcH)))
 by_cases E:kind=12
 .subst E
  refine Go ?_;refine Dy 3 ?_;refine Cw ?_;refine Go ?_;exact Ak (Rets.of2 (ResV.tmp rfl rfl) (ResV.tmp rfl rfl) (Bb (Ac ZcG) (Ac ZcH)))
 refine Go ?_;exact Ak (Rets.of2 (ResV.tmp rfl rfl) (ResV.tmp rfl rfl) (Bb (Ac ZcG) (Ac ZcH)))):p:=h
theorem Zae(h:p:=by
 have xE:sh.length=L.length:=by
  have:=Da H;rcases Nat.lt_or_ge sh.length L.length with Q | hge
  .have A:=xh sh.length Q
   rw[xa.tail _ (Nat.le_refl _)]at A;cases A
  .omega
 have:=xr g N xa.ext λj y F O hF=>xa.facts j y F O hF (xh j (by have:=DZ O;omega));rw[xE]at this
 have xG:EG g (L.take L.length) 0 a=a':=by
  obtain⟨p1,p2,p3,p4⟩:=FS (g:=g) (L.take L.length) 0 a (λj k o Y d R C c s=>by
   simp at R C;exact Fo H ZeA (by have:=(List.getElem?_eq_some_iff.1 C).1;omega) R C c s) (λo r d xk=>by
   rw[<-xE]at r;have B:=List.all_eq_true.1 Z o r;simp only[xk,decide_eq_true_eq]at B;exact B)
  refine LT (Array.ext_getElem? λt=>?_) (p2.trans xa.adef.symm);by_cases K:∃(j:Nat) (o:Oper),L[j]? = some o/\o.dst=some t
  .obtain ⟨j,o,R,xk⟩:=K
   rw[p3 j o t ZeH xk,xa.a1 j o t ZeA R (xh j (List.getElem?_eq_some_iff.1 R).1) xk];simp
  .rw [p4 t λj o R e=>K ⟨j,o,by simpa using R,e⟩,xa.a2 t λj o _ R _ e=>K ⟨j,o,R,e⟩]
 rw[xG]at this;exact this):p:=h
theorem Zam(h:p:=by
 obtain⟨k,C,rfl,T⟩:=hrel;by_cases U:k=0
 .subst U
  go_wp2;go_ret;refine⟨_,rfl,?_,Ext.refl _⟩;have B:=H.out.take (k:=0) (Nat.zero_le _);rw[T.out];exact B
 .have Q:0<k:=by omega
  obtain⟨b,o,rfl,F,K⟩:=O.out ZeS;have K:=K (k-1) ZeS;have W:((k:Int)-1).toNat=k-1:=by omega
  by_cases J:l.getD (k-1) 0=0
  .rw [J]at K
   have J:=Ae J;go_wp2;go_round
   case rel => exact ⟨k - 1, by omega, by go_num, by
    have B:k-1<l.length:=by rw[<-M.out];omega
    have L:l[k-1]=0:=by have:=J.out;simpa[B]using this
    have V:=OP B L;rw[show k-1+1=k by omega]at V;exact T.out.trans V⟩
   case measure=>simp[intOf];omega
  .have q:((l.getD (k-1) 0:Nat):Int)≠0:=by omega
   generalize E:l.getD (k-1) 0=x at *;have E:=Ae E;have r:((x:Int)==0)=false:=by simpa using J
   go_wp2;go_ret;refine⟨_,rfl,?_,Ext.refl _⟩;have B:=H.out.take (k:=k) ZeS;have R:k-1<l.length:=by rw[<-M.out];omega
   have L:l[k-1]≠0:=by have:=E.out;simp[R]at this;omega
   have V:=KM R L;rw[show k-1+1=k by omega]at V;rw[T.out,V];exact B):p:=h
theorem Zaf(h:p:=by
 have key:∀(l:List Bool) (n:Nat),n<=l.length->(∀j,j<n->l[j]? = some true)->(∀j,n<=j->j<l.length->l[j]? = some false)->(l.filter (!·)).length+n=l.length:=by
  intro l
  induction l with
  |nil=>intro n W _ _;simp at W;simp[W]
  |cons b l xJ=>
   intro n W A B
   cases n with
   |zero=>
    have I:=B 0 (Nat.le_refl _) ZbV;simp at I;subst I;have:=xJ 0 ZbK (λj R=>by omega) (λj _ R=>by simpa using B (j+1) ZbK ZeH);simp at this ⊢;omega
   |succ n=>
    have I:=A 0 ZbK;simp at I;subst I;have:=xJ n (by simpa using W) (λj R=>by simpa using A (j+1) ZbK) (λj xF xz=>by simpa using B (j+1) ZbK (by simpa using xz));simp;omega
 have := key z.toList sh.length (by simpa [xa.size] using Da H) (fun j R => by
   have A:=xl j R;have xm:j<z.size:=by rw[xa.size];have:=Da H;omega
   simp[xm]at A;simp[xm,A]) (λj xF xz=>by
   have A:=xa.tail j xF;have xm:j<z.size:=by simpa using xz
   simp[xm]at A;simp[xm,A])
 have c:(z.toList.filter (!·)).length=f+1:=m;rw[c]at this;simpa[xa.size]using this):p:=h
theorem Zbj(h:p:=by
 rintro B _ ⟨k,C,rfl,M,rfl⟩;by_cases Q:k<L.length
 .have I:=hF _ (Cd (l:=L) Q)
  by_cases G:P (L.getD k default)
  .rw [decide_eq_true G]at I
   have S:∀j,j<k+1->P (L.getD j default):=λj A=>by
    rcases Nat.lt_or_ge j k with h | h
    .exact M j h
    .obtain rfl:j=k:=by omega
     exact G
   refine Go ?_;refine Wq (JZ (ao rfl) I Zde) ?_;refine Go ?_;refine Am (L.length-(k+1)) ZbK ⟨k+1,by omega,rfl,S,rfl⟩ ?_;exact Ad Zcp Zch
  .rw [decide_eq_false G]at I
   rw[decide_eq_false λh:(∀x∈L,P x)=>G (h _ (Cd Q))];refine Go ?_;refine Wq (JZ (ao rfl) I Zde) ?_;refine Go ?_;exact Yf
 .obtain rfl:k=L.length:=by omega
  rw[decide_eq_true (show∀x∈L,P x from λx E=>by
   obtain⟨j,A,e⟩:=List.getElem_of_mem E;have:=M j A;rw[List.getD_eq_getElem?_getD,List.getElem?_eq_getElem A,e]at this;exact this)]
  refine Go ?_;exact Yf):p:=h
theorem Zbc(h:p:=by
 have I:=S T g B
 refine Go ?_;refine AH [0] [] [] (I) (BK rfl) (λX=>(by repeat (first | exact AB (Rd.none (Do Q b X)) | apply As | apply PanQ.block | apply PanQ.loop):PanQ _ _) _) rfl rfl ZbH ZbG ZbN ZbE ZbJ trivial rfl ?_;rintro _ _ ⟨x,E,L,m,rfl,rfl⟩;refine Kr ?_;refine Wq Qw ?_;refine OJ (ao rfl) (ao rfl) rfl (Aa rfl) rfl (IT (λ_=>rfl) rfl Q) rfl ?_;refine Go ?_;refine Am (8-(k+1)) ZbK ⟨k+1,Z++[x],E,by omega,rfl,by simp[F],m,Dn Q b L,rfl⟩ ?_;exact Ad ZcW (by exact HpLe.cons (Af rfl)<|HpLe.cons (Aj rfl)<|HpLe.cons (OwLe.varD (Uy F))<|HpLe.nil)):p:=h
theorem Zbi(h:p:=by
 refine Ce [0] (I) rfl ZbL rfl ZbH ZbG ZbN ZbE rfl ?_;rintro _ _ ⟨rfl,rfl⟩;refine Kr ?_;refine Wa<|AWl.nil<|Bv<|Yn<|AWp.region<|Wm ?_;refine Wq Dl ?_;refine Wa<|AWl.nil ?_
 refine Am (8-(k+1)) ZbK ⟨k+1,by omega,rfl,rfl⟩ ?_;exact Ad Zca ZdU):p:=h
theorem ZaU(h:p:=by
 refine AD [0,1] [] [] (I) ZbF rfl rfl ZbH ZbG ZbN ZbE ZbJ trivial rfl ?_;rintro _ _ ⟨rfl,rfl⟩;refine Kr ?_;apply AWl.nil
 first | refine Be RetsA.none rfl ?_ rfl | refine AE RetsA.none rfl ?_ rfl
 exact⟨rfl,rfl⟩):p:=h
theorem Zag(h:p:=by
 have xg:∀j o,(L.take sh.length)[j]? = some o->j<sh.length/\L[j]? = some o:=λj o h=>by
  rw[List.getElem?_take]at h;split at h
  .exact ⟨by assumption,h⟩
  .cases h
 obtain⟨p1,p2,p3,p4⟩:=FS (g:=g) (L.take sh.length) 0 a (λj k o Y d R C c s=>by
  obtain⟨xF,xz⟩:=xg j o R;obtain⟨xD,xB⟩:=xg k Y C;exact Fo H xF xD xz xB c s) (λo r d xk=>by
  have B:=List.all_eq_true.1 Z o r;simp only[xk,decide_eq_true_eq]at B;exact B)
 refine LT (Array.ext_getElem? λt=>?_) (p2.trans xa.adef.symm);by_cases K:∃(j:Nat) (o:Oper),j<sh.length/\L[j]? = some o/\o.dst=some t
 .obtain ⟨j,o,xC,R,xk⟩:=K
  rw[p3 j o t (by rw[List.getElem?_take,if_pos xC];exact R) xk,xa.a1 j o t xC R (xl j xC) xk];simp
 .rw [p4 t λj o R e=>K ⟨j,o,(xg j o R).1,(xg j o R).2,e⟩,xa.a2 t λj o xC R _ e=>K ⟨j,o,xC,R,e⟩]):p:=h
theorem Zbs(h:p:=by
 subst E
 refine Go ?_;refine Dy 3 ?_;refine Cw ?_;refine Go ?_;exact Ak (Rets.of2 (ResV.tmp rfl rfl) (ResV.tmp rfl rfl) (Bb (Ac ZcG) (Ac ZcH)))):p:=h
theorem Zbr(h:p:=by
 subst k
 refine Go ?_;refine Dy 5 ?_;refine Cw ?_;refine Go ?_;exact Ak (Rets.of2 (ResV.tmp rfl rfl) (ResV.tmp rfl rfl) (Bb (Ac ZcG) (Ac ZcH)))):p:=h
theorem ZaZ(h:p:=by
 refine Ce [0] (I) rfl ZbL rfl ZbH ZbG ZbN ZbE rfl ?_;rintro _ _ ⟨rfl,rfl⟩;refine Kr ?_;refine Go ?_
 first | refine Be (RetsA.one rfl) rfl ?_ rfl | refine AE (RetsA.one rfl) rfl ?_ rfl
 exact⟨rfl,rfl⟩):p:=h
theorem Zbx(h:p:=by
 refine Go ?_
 refine CutS.normal () (by revert q;simp[Ug,eq3,A,B]) ?_;exact Ad ZcC ZcK):p:=h
theorem Zau(h:p:=by
 have h:=AI q.out k;have f:=AI P.out k;have J:wr.cell? ⟨w.heap.size,k,none⟩=some (.int .u32 (r.getD k 0:Nat)):=by rw[T.out.2.2.1.cell,Dr Zcr]
 have b:=T.out.2.2.1.frozen k;generalize E:L.getD k 0=x at *;generalize O:p.getD k 0=y at *;replace E:=Ae E;replace O:=Ae O;unfold BB at h f;go_wp2_with fail;refine(GV _ L k x _ (Ha.out.ext T.out.2.2.2.2) E.out).mono ?_;rintro e R ⟨rfl,rfl⟩;go_wp2_with fail;refine(GV _ p k y _ (Hb.out.ext T.out.2.2.2.2) O.out).mono ?_;rintro e R ⟨rfl,rfl⟩;go_wp2;exact⟨T.out.step Q E.out O.out h f u ZcJ ZcJ,by simp[intOf];omega⟩):p:=h
theorem Zbw(h:p:=by
 refine Go ?_
 refine CutS.ret ?_;exact Ak (Ah (ResV.tmp rfl rfl) (Ac (congrArg (λz=>ex (.bool z)) (by revert q;simp[Ug,eq3,A,B]<;>(intro q;exact .inl q)))))):p:=h
theorem ZaC(h:p:=by
 obtain⟨B,C,L,V,m,G⟩:=h;refine⟨⟨by simpa using B,CQ C k (Nat.mod_lt _ Cv),by rw[X];exact L.set ZbK _,V.set _ _,?_,λi M=>?_⟩,?_⟩
 .rw [AM, CS, BX ZbK, AM q, AM v, O, <-G k (Nat.le_refl _), J]
  have e:=Nat.mod_add_div (z+y+K) BB
  have F:BB^k*((z+y+K)%BB)+BB^(k+1)*((z+y+K)/BB)=BB^k*(z+y+K):=by
   rw[Nat.pow_succ,Nat.mul_assoc,<-Nat.mul_add,e]
  rw[Nat.mul_add,Nat.mul_add]at F;omega
 .rw [<-G i ZbK]
  have:k≠i:=by omega
  simp[List.getElem?_set_ne this]
 .have:=Nat.div_lt_of_lt_mul (show z+y+K<BB*2 by omega)
  omega):p:=h
theorem Zac(h:p:=by
 unfold Region.wanted Ew
 cases I:va.guard with
 |none=>rfl
 |some S=>
  obtain⟨j,b⟩:=S;have A:=(Cq H o).2.1 uo E;simp only[Et,Bool.and_eq_true]at A;have B:=A.1.2;rw[I]at B;simp only[Bool.and_eq_true,decide_eq_true_eq]at B;obtain⟨⟨C,V⟩,m⟩:=B;have K:=DE H J.closed n uo va E o G j ZcF;split at m
  .rename_i l F
   obtain⟨d,M⟩:=Option.isSome_iff_exists.1 m;have:=J.a1 j l d V F K M;unfold yielded;simp only[List.getElem?_toArray,F,Option.bind_some,M,this];cases g j<;>simp
  .cases m):p:=h
theorem Zas(h:p:=by
 go_wp2;refine bodyPost_ret (v:=.agg #[.bool false,.slice A 0 c]) ZdI rfl ⟨_,_,_,_,rfl,⟨?_,?_⟩,?_⟩
 .rw [U.out,In];rfl
 .rw [U.out,In]
  show Words _ _ (Aq 0);rw[BA];have J:=(Ty.new w #[Value.bool false,Value.slice none 0 0] 109).ext S;exact(a.out.set J ZbN _).set (J.set _ _) ZbN _
 .exact ((((Ext.refl _).alloc _).trans S).set (Nat.le_refl _) _).set (Nat.le_refl _) _):p:=h
theorem Zbq(h:p:=by
 by_cases K:f.length=0
 .refine Go ?_
  refine Dy 21 ?_;refine Cw ?_;refine Go ?_;exact Ak (Ah (ResV.tmp rfl rfl) (Ac (congrArg (λz=>ex (.bool z)) Zcq)))
 .refine Go ?_
  refine Dy 21 ?_;refine Cw ?_;refine Go ?_;exact Ak (Ah (ResV.tmp rfl rfl) (Ac (congrArg (λz=>ex (.bool z)) Zcq)))):p:=h
theorem Zbe(h:p:=by
 cases U with
 |d x=>exact R
 |ptr i off=>exact R
 |own j=>
  show AVr H.length W s (bif Nat.beq j id then .d (ex (W id))else .own j) v
  cases F:Nat.beq j id with
  |true=>
   have e:j=id:=Nat.eq_of_beq_eq_true F;subst e;exact R.2
  |false=>exact R
 |fn f N=>
  show AVr H.length W s (bif N.contains id then .d Cs else .fn f N) v
  cases F:N.contains id with
  |true=>trivial
  |false=>exact R):p:=h
theorem ZaQ(h:p:=by
 have G:P.drop k=[]:=List.drop_eq_nil_of_le ZbK
 by_cases z:k<Q.length
 .have e:CB P Q=-1:=by
   rw[heq,G,FF z,CB]
  refine Go ?_;exact Ak (Ah (ResV.tmp rfl rfl) (Ac ZeC))
 .have e:CB P Q=0:=by
   rw[heq,G,(List.drop_eq_nil_of_le ZbK:Q.drop k=[]),CB]
  refine Go ?_;exact Ak (Ah (ResV.tmp rfl rfl) (Ac ZeC))):p:=h
theorem Zbk(h:p:=by
 by_cases K:f.length=0
 .refine Go ?_
  exact Ak (Ah (ResV.tmp rfl rfl) (Ac (congrArg (λz=>ex (.bool z)) Zcq)))
 .refine Go ?_
  exact Ak (Ah (ResV.tmp rfl rfl) (Ac (congrArg (λz=>ex (.bool z)) Zcq)))):p:=h
theorem Zab(h:p:=by
 obtain⟨A,B⟩:=h;obtain⟨K,G⟩:=StepsAt.at B;refine⟨by simp[K],λk l I C E=>?_⟩
 cases k with
 |zero=>
  simp at C E;subst C;subst E;exact⟨F,rfl,A⟩
 |succ k=>
  simp at C E;obtain⟨N,hF,f⟩:=G k l I C E;refine⟨N,by simpa using hF,?_⟩;have:i+(k+1)=i+1+k:=by omega
  rw[this];exact f):p:=h
theorem ZaF(h:p:=by
 have J:Ty q (w.heap.size+2) 109:=((EB _ _ ZbV).alloc _).ext d.out
 have v:Ty q (w.heap.size+3) 109:=(EB _ _ ZbV).ext d.out;exact(((T.out.set J ZbN _).set (J.set _ _) ZbN _).set ((v.set _ _).set _ _) ZbN _).set (((v.set _ _).set _ _).set _ _) ZbN _):p:=h
theorem ZaE(h:p:=by
 have J:Ty q (w.heap.size+2) 109:=((EB _ _ ZbV).alloc _).ext d.out
 have v:Ty q (w.heap.size+3) 109:=(EB _ _ ZbV).ext d.out;exact(((s.out.set J ZbN _).set (J.set _ _) ZbN _).set ((v.set _ _).set _ _) ZbN _).set (((v.set _ _).set _ _).set _ _) ZbN _):p:=h
theorem Zbz(h:p:=by
 have J:O=FY true O p:=by rw [FY, if_pos (.inr (.inl ⟨rfl, S⟩))]
 refine Go ?_;refine Am (L.length-(k+1)) ZbK ⟨k+1,by omega,rfl,rfl⟩ ?_;exact Ad Zcu Zch):p:=h
theorem Zby(h:p:=by
 have J:O=FY plain O p:=by rw [FY, if_pos (.inl N)]
 refine Go ?_;refine Am (L.length-(k+1)) ZbK ⟨k+1,by omega,rfl,rfl⟩ ?_;exact Ad Zcu Zch):p:=h
theorem ZaW(h:p:=by
 obtain rfl:k=8:=by omega
 refine Go ?_
 first | refine Be RetsA.none rfl ?_ rfl | refine AE RetsA.none rfl ?_ rfl
 exact⟨rfl,rfl⟩):p:=h
theorem Zaj(h:p:=by
 rcases Nat.lt_or_ge j L.length with h | h
 .simp [h]
 .simp [h]):p:=h
theorem ZaM(h:p:=by
 refine Go ?_
 refine Dy 9 ?_;refine Cw ?_;refine⟨_,HStep.q rfl (Mp rfl rfl),?_⟩;refine Cw ?_;rw[Bool.eq_false_iff.2 g];refine Go ?_;exact Ak (Ah (ResV.tmp rfl rfl) (Ac (by rw[decide_eq_false λh:GA A B=>g (h.2 k Q)])))):p:=h
theorem Zbh(h:p:=by
 first | refine Be (RetsA.one rfl) rfl ?_ rfl | refine AE (RetsA.one rfl) rfl ?_ rfl
 exact⟨rfl,by rw[w];rfl⟩):p:=h
theorem ZaJ(h:p:=by
 obtain rfl:k=P.length:=by omega
 refine Go ?_;exact Ak (Ah (ResV.tmp rfl rfl) (Ac (by rw[List.take_length])))):p:=h
theorem Zay(h:p:=by
 exact ⟨n, 0, List.replicate n 0, Nat.le_refl _, rfl, rfl, f, by simp, Cc _, Blk.new _ _ _, by
 have B:L.drop n=[]:=List.drop_eq_nil_of_le Zdq;rw[B];simp[val],(Ext.refl _).alloc _⟩):p:=h
theorem Zap(h:p:=by
 have J:=(Ty.new w #[Value.bool false,Value.slice none 0 0] 109).ext F.out
 have E:=E.out;rw[Aw,show IG true (-n).toNat=n by simp[IG];omega]at E;exact(E.set J ZbN _).set (J.set _ _) ZbN _):p:=h
theorem Zaq(h:p:=by
 have J:=(Ty.new w #[Value.bool false,Value.slice none 0 0] 109).ext F.out
 have E:=E.out;rw[Aw,show IG false n.toNat=n by simp[IG];omega]at E;exact(E.set J ZbN _).set (J.set _ _) ZbN _):p:=h
theorem Zaz(h:p:=by
 have B:=T.out.2.2.2.1;simp only[List.drop_zero]at B;rw[B];constructor
 .rw [Nat.mul_comm,Nat.mul_add_div f,Nat.div_eq_of_lt G,Nat.add_zero]
 .rw [Nat.mul_comm,Nat.mul_add_mod,Nat.mod_eq_of_lt G]):p:=h
theorem ZaR(h:p:=by
 simp only[Bool.and_eq_true]at this;refine⟨by simpa using this.1,?_⟩;have B:=this.2
 cases T:L[p.2]? with
 |none=>rw[T]at B;cases B
 |some l=>rw[T]at B;exact⟨l,rfl,by simpa using B⟩):p:=h
theorem ZaT(h:p:=by
 subst A;refine⟨rfl,λi o M=>?_,rfl,B⟩;have B:u.take (wH b).length=wH (b++e):=B;rw[B]at M
 match i,M with
 |0,M=>cases M;intro U R;rw[List.mem_singleton.1 R];rfl
 |1,M=>cases M;trivial):p:=h
theorem ZbA(h:p:=by
 cases M;intro p G;obtain⟨k,C,rfl⟩:=Jw G
 match k,C with
 |0,_=>exact⟨Nat.zero_lt_succ _,rfl⟩
 |1,_=>exact⟨Nat.succ_lt_succ (Nat.zero_lt_succ _),rfl⟩):p:=h
theorem Zan(h:p:=by
 exact⟨n,Nat.le_refl _,rfl,Ext.refl _,λi M=>by
 have C:(Aq x).length<=i:=by rw[<-t.out];exact M
 have E:(Aq y).length<=i:=by rw[<-L.out];exact M
 simp[C,E]⟩):p:=h
theorem ZaA(h:p:=by
 have W:BB*((q*y+cy)/BB+c)+z=X+q*y+(cy+o):=by rw[Nat.mul_add];omega
 rw[Nat.pow_succ,Nat.mul_assoc,<-Nat.mul_add,W,Nat.mul_add,Nat.mul_add,Nat.mul_left_comm q]):p:=h
theorem ZaI(h:p:=by
 obtain rfl:k=P.length:=by omega
 refine Go ?_;exact Ak (Rets.of2 (ResV.tmp rfl rfl) (ResV.tmp rfl rfl) (Bb (Ac (by rw[List.take_length];rfl)) (D.le.refl _)))):p:=h
theorem Zat(h:p:=by
 rw [KW]
 have J:=(Ty.new w #[Value.bool false,Value.slice none 0 0] 109).ext S;exact(a.out.set J ZbN _).set (J.set _ _) ZbN _):p:=h
theorem Zai(h:p:=by
 rcases Nat.lt_or_ge i sh.length with Q | hge
 .exact Q
 .have:=Jn H xa.size xa.closed hge r xe j0 ZbK
  rw[xt]at this;cases this):p:=h
theorem ZaN(h:p:=by
 obtain rfl:k=A.length:=by omega
 refine Go ?_;have G:GA A B:=⟨K,X⟩;exact Ak (Ah (ResV.tmp rfl rfl) (Ac (by rw[decide_eq_true G])))):p:=h
theorem Zbd(h:p:=by
 unfold Dp;apply List.ext_getElem?;intro i;rw[List.getElem?_set];split
 .rename_i h
  subst h;rw[S]
  try rw[if_pos (Ca S)]
  rfl
 .rfl):p:=h
theorem Zar(h:p:=by
 have J:Ty N (w.heap.size+2) 109:=(EB _ _ ZbV).drew.ext S.out
 exact(o.out.set J ZbN _).set (J.set _ _) ZbN _):p:=h
theorem Zaw(h:p:=by
 rename_i Q
 rw[if_neg ZbK]at q;rcases F k l O C q with B | ⟨j,B,h3⟩
 .exact .inl B
 .exact .inr ⟨j,by omega,h3⟩):p:=h
theorem Zbn(h:p:=by
 subst F
 refine Go ?_;exact Ak (Ah (ResV.tmp rfl rfl) (Ac (congrArg (λz=>ex (.bool z)) Zci)))):p:=h
theorem Zbp(h:p:=by
 subst O
 refine Go ?_;exact Ak (Ah (ResV.tmp rfl rfl) (Ac (congrArg (λz=>ex (.bool z)) Zci)))):p:=h
theorem Zbl(h:p:=by
 subst V
 refine Go ?_;exact Ak (Ah (ResV.tmp rfl rfl) (Ac (congrArg (λz=>ex (.bool z)) Zci)))):p:=h
theorem Zbo(h:p:=by
 subst g
 refine Go ?_;exact Ak (Ah (ResV.tmp rfl rfl) (Ac (congrArg (λz=>ex (.bool z)) Zci)))):p:=h
theorem Zbm(h:p:=by
 subst m
 refine Go ?_;exact Ak (Ah (ResV.tmp rfl rfl) (Ac (congrArg (λz=>ex (.bool z)) Zci)))):p:=h
theorem ZaY(h:p:=by
 have S:=h y (by rw [Y]; simp [Op.operands])
 rw[O]at S;exact⟨_,rfl,.inl (by show some (R y)=_;rw[show R y=_ from S])⟩):p:=h
theorem Zav(h:p:=by
 have m:=h y (by rw [Q]; simp [Op.operands])
 rw[O]at m;exact⟨_,rfl,.inl (by show some (N y)=_;rw[show N y=_ from m])⟩):p:=h
theorem ZaL(h:p:=by
 rw[List.getElem?_set]at M;split at M
 .split at M
  .exact .inl (Option.some.inj M).symm
  .cases M
 .exact .inr M):p:=h
theorem Zao(h:p:=by
 subst U
 go_wp2;go_ret;exact⟨by rw[Qh ZdF (λi=>T.out.2 i (Nat.zero_le _))];rfl,T.out.1⟩):p:=h
theorem Zax(h:p:=by
 obtain rfl:k=8:=by omega
 go_wp2;go_ret;exact⟨rfl,S.out⟩):p:=h
theorem ZaD(h:p:=by
 have:(List.replicate (m-(n+1)+1) 0).drop (m-(n+1)+1)=[]:=List.drop_eq_nil_of_le ZbV
 rw[this];simp[val]):p:=h
theorem ZaK(h:p:=by
 have:i-H.length=0:=by
  have:=Ca M;simp at this;omega
 rw[this]at M;exact .inr (Option.some.inj M).symm):p:=h
theorem ZaO(h:p:=by
 refine Go ?_
 exact Ak (Ah (ResV.tmp rfl rfl) (Ac (by rw[decide_eq_false λh:GA A B=>K h.1])))):p:=h
theorem Zad(h:p:=by
 cases U:z.getD j false with
 |true=>rfl
 |false=>have:=PV (by rw[xa.size];exact R) U;omega):p:=h
theorem Zbv(h:p:=by
 refine Go ?_
 exact Ak (Ah (ResV.cell rfl rfl (Aa rfl) rfl rfl rfl) (Ac ZdX))):p:=h
theorem ZaP(h:p:=by
 cases h:Nat.blt (vb+1000000) 1000000 with
 |false=>rfl
 |true=>rw[Nat.blt_eq]at h;omega):p:=h
theorem ZbB(h:p:=by
 refine Cw ?_
 refine Go ?_;exact Yf):p:=h
theorem Zbf(h:p:=by
 have h:(!Nat.beq i n)=true:=h;have h:Nat.beq i n=false:=by simpa using h
 simp[Sv,h]):p:=h
theorem ZaG(h:p:=by
 go_enter Tryz.func218,Tryz.ntmps218
 go_wp2;go_ret;exact⟨by simp[z.out],S.out⟩):p:=h
theorem Zal(h:p:=by
 rcases List.mem_cons.1 hF with rfl | hF
 .exact h.1
 .exact StabAll.mem h.2 F hF):p:=h
theorem ZaS(h:p:=by
 rw [getD_set_ne false (λe=>G e.symm)]
 exact⟨.inr,λh=>h.resolve_left G⟩):p:=h
theorem Zah(h:p:=by
 cases U:z.getD j false with
 |true=>rfl
 |false=>exact absurd ⟨j,R,U⟩ xq):p:=h
theorem ZaB(h:p:=by
 rw [<-J i ZbK]
 have:k≠i:=by omega
 simp[List.getElem?_set_ne this]):p:=h
theorem ZaH(h:p:=by
 go_wp2
 go_ret;exact⟨by rw[L.out];rfl,S.out.trans (I.out.trans B.out)⟩):p:=h
theorem ZbC(h:p:=by
 first | refine Be RetsA.none rfl ?_ rfl | refine AE RetsA.none rfl ?_ rfl
 exact⟨rfl,rfl⟩):p:=h
theorem ZbD(h:p:=by
 by_cases E:kind=12
 .exact Zbs
 refine Go ?_;exact Ak (Rets.of2 (ResV.tmp rfl rfl) (ResV.tmp rfl rfl) (Bb (Ac ZcG) (Ac ZcH)))):p:=h
theorem ZbE(h:p:=by repeat (first | exact SelR.nil | refine SelR.var rfl ?_ | refine SelR.obj rfl ?_ | refine SelR.row rfl ?_ | refine SelR.varA rfl rfl rfl ?_)):p:=h
theorem ZbF(h:p:=by first | exact Or.inl rfl | exact Or.inr ⟨by decide,rfl,by repeat (first | exact AvoidR.nil | refine Ai rfl ?_ | refine AvoidR.dead ?_ | refine AvoidR.row ?_ | refine AvoidR.obj ?_ | refine AvoidR.varD ?_ | refine AvoidR.varA rfl ?_ | refine AvoidR.pin rfl ?_)⟩):p:=h
theorem ZbG(h:p:=by repeat (first | exact ArgsC.nil | refine ArgsC.d rfl (D.le.refl _) ?_ | refine ArgsC.av rfl rfl ?_)):p:=h
theorem ZbH(h:p:=by first | exact .inl ⟨rfl,rfl,rfl⟩ | exact .inr (.inr ⟨rfl,rfl,rfl⟩)):p:=h
theorem ZbI{α:Sort _}{r:α->Prop}(h:∀x,r x:=by intro _;first | exact AZ (ah rfl) | exact Bt (ah rfl) (Aa rfl) rfl (Aa rfl) rfl rfl | exact Bd | exact AL | (apply AG;refine AT (Aa rfl) rfl rfl rfl ?_;(repeat ((first | refine⟨_,AA (ah rfl),?_⟩ | refine⟨_,Po rfl,?_⟩);refine⟨_,rfl,?_⟩));refine⟨_,rfl,?_⟩;rfl)):∀x,r x:=h
theorem ZbJ(h:p:=by repeat (first | exact trivial | refine⟨⟨_,_,rfl⟩,?_⟩)):p:=h
theorem ZbK(h:p:=by omega):p:=h
theorem ZbL(h:p:=by repeat (first | exact AvoidR.nil | refine Ai rfl ?_ | refine AvoidR.dead ?_ | refine AvoidR.row ?_ | refine AvoidR.obj ?_ | refine AvoidR.varD ?_ | refine AvoidR.varA rfl ?_ | refine AvoidR.pin rfl ?_)):p:=h
theorem ZbM(h:p:=by kernel_rfl):p:=h
theorem ZbN(h:p:=by decide):p:=h
theorem ZbO(h:p:=by first | ((repeat (first | exact PlainHp.nil | refine PlainHp.var ?_ | refine PlainHp.row ?_ | refine PlainHp.dead ?_ | refine PlainHp.obj ?_ | refine PlainHp.pin rfl ?_ | refine PlainHp.varA rfl ?_));done) | fail):p:=h
theorem ZbP(h:p:=by first | omega | (simp only[List.length_append];omega)):p:=h
theorem ZbQ(h:p:=by exact HpLe.cons (Af rfl)<|Yr<|HpLe.cons (Aj rfl)<|HpLe.cons (Af rfl)<|HpLe.nil):p:=h
theorem ZbR(h:p:=by repeat (first | exact DsLe.nil | refine DsLe.cons (D.le.refl _) ?_ | refine DsLe.cons (Ac (by first | rfl | (congr 2;omega))) ?_ | refine DsLe.cons Bf ?_)):p:=h
theorem ZbS(h:p:=by first | (simp only[Cx,List.length_cons,List.length_nil];omega) | (simp[Cx];done) | (simp[Cx];omega)):p:=h
theorem ZbT(h:p:=by exact Yp<|FrLe.cons rfl (BL rfl)<|FrLe.cons rfl (AVle.own rfl)<|Yd<|Yd<|FrLe.nil):p:=h
theorem ZbU(h:p:=by first | omega | (simp;omega)):p:=h
theorem ZbV(h:p:=by simp):p:=h
theorem ZbW(h:p:=by exact Yp<|FrLe.cons rfl (BL rfl)<|Yd<|Yd<|Yd<|FrLe.nil):p:=h
theorem ZbX(h:p:=by first | ((repeat (first | exact ArgsLe.nil | refine ArgsLe.cons rfl (D.le.refl _) ?_ | refine ArgsLe.cons rfl Bf ?_));done) | fail):p:=h
theorem ZbY(h:p:=by simp only[List.length_append];omega):p:=h
theorem ZbZ(h:p:=by simp only[Int.natAbs_natCast];omega):p:=h
theorem Zca(h:p:=by exact FrLe.cons rfl (AVle.own rfl)<|Yp<|Yd<|FrLe.nil):p:=h
theorem Zcb(h:p:=by exact Yp<|Yp<|FrLe.nil):p:=h
theorem Zcd(h:p:=by exact FrLe.cons rfl (AVle.own rfl)<|Yd<|Yd<|FrLe.nil):p:=h
theorem Zce(h:p:=by repeat (first | exact CellsLe.nil | refine CellsLe.cons (AVle.d rfl) ?_ | refine CellsLe.cons (AVle.le Bf) ?_)):p:=h
theorem Zcf(h:p:=by exact HpLe.cons (Af rfl)<|HpLe.cons (Aj rfl)<|Yr<|HpLe.nil):p:=h
theorem Zcg(h:p:=by exact Yp<|Yp<|Yd<|Yd<|Yd<|FrLe.nil):p:=h
theorem Zch(h:p:=by exact HpLe.nil):p:=h
theorem Zci(h:p:=by rw[Bool.eq_iff_iff];simp[Dq]):p:=h
theorem Zcj(h:p:=by refine Yd ?_;refine Yd ?_;(refine FrLe.cons rfl (AVle.le (Ac (by rw[X,<-J];unfold FT;congr 1;simp[EK,List.map_take,List.map_drop]))) ?_);exact Yd<|FrLe.nil):p:=h
theorem Zck(h:p:=by exact HpLe.cons (Af rfl)<|HpLe.cons (OwLe.row Zds)<|HpLe.cons (Aj rfl)<|HpLe.nil):p:=h
theorem Zcl(h:p:=by rw[h];omega):p:=h
theorem Zcm(h:p:=by exact Yp<|Yd<|Yd<|FrLe.nil):p:=h
theorem Zcn(h:p:=by exact Yd<|Yd<|FrLe.cons rfl (AVle.own rfl)<|Yd<|Yd<|FrLe.nil):p:=h
theorem Zco(h:p:=by exact HpLe.cons (Af rfl)<|HpLe.cons (OwLe.row (by simp[CX]))<|HpLe.cons (Aj rfl)<|HpLe.nil):p:=h
theorem Zcp(h:p:=by exact Yd<|Yd<|Yd<|Yd<|FrLe.nil):p:=h
theorem Zcq(h:p:=by first | (rw[Bool.eq_iff_iff];simp[Dq, *];done) | (simp[Dq];done)):p:=h
theorem Zcr(h:p:=by rw[T.out.1];omega):p:=h
theorem Zcs(h:p:=by exact Yv<|Yv<|HpLe.nil):p:=h
theorem Zct(h:p:=by repeat (first | exact DownR.nil | (apply DownR.varA;exact rfl) | apply DownR.row | apply DownR.obj | apply DownR.dead | (apply DownR.pin;exact rfl))):p:=h
theorem Zcu(h:p:=by refine Yd ?_;refine Yd ?_;refine FrLe.cons rfl (AVle.le (Ac (by rw[X,<-J]))) ?_;exact Yd<|FrLe.nil):p:=h
theorem Zcv(h:p:=by rw[IntKind.wrap_u8];omega):p:=h
theorem Zcw(h:p:=by exact FrLe.cons rfl (AVle.own rfl)<|Yd<|Yd<|Yd<|FrLe.nil):p:=h
theorem Zcx(h:p:=by first | exact Fj rfl | exact Ev | exact One.ep):p:=h
theorem Zcy(h:p:=by assumption):p:=h
theorem Zcz(h:p:=by simp<;>omega):p:=h
theorem ZcA(h:p:=by simp[Bg];omega):p:=h
theorem ZcB(h:p:=by refine CSteps.s ?_;refine Ed ?_;refine Ed ?_;refine Ed ?_;refine Ed ?_;refine Ed ?_;refine Ed ?_;refine Mw (g0) ?_;refine Ed ?_;refine Ed ?_;refine Ed ?_;refine Ed ?_;refine Ed ?_;refine Ed ?_;refine Mw (f) ?_;refine CSteps.s ?_;exact CSteps.nil):p:=h
theorem ZcC(h:p:=by exact Yd<|Yd<|Yd<|FrLe.nil):p:=h
theorem ZcD(h:p:=by dsimp only;omega):p:=h
theorem ZcE(h:p:=by simp[Op.operands]):p:=h
theorem ZcF(h:p:=by simpa using C):p:=h
theorem ZcG(h:p:=by simp[DT, *]):p:=h
theorem ZcH(h:p:=by simp[Em, *]):p:=h
theorem ZcI(h:p:=by rw[R];exact Do Q b X):p:=h
theorem ZcJ(h:p:=by rw[Br];omega):p:=h
theorem ZcK(h:p:=by exact HpLe.cons (OwLe.dead)<|HpLe.cons (OwLe.dead)<|HpLe.nil):p:=h
theorem ZcL(h:p:=by exact HpLe.cons (OwLe.row (by simp[CX]))<|HpLe.cons (Aj rfl)<|HpLe.cons (Af rfl)<|HpLe.nil):p:=h
theorem ZcM(h:p:=by refine HpLe.cons (OwLe.cells (CellsLe.cons (AVle.int ZbK) (CellsLe.cons (AVle.int ZbK) (CellsLe.cons (AVle.int ZbK) CellsLe.nil)))) ?_;refine HpLe.cons (OwLe.cells (CellsLe.cons (AVle.int ZbK) (CellsLe.cons (AVle.int ZbK) (CellsLe.cons (AVle.int ZbK) CellsLe.nil)))) ?_;exact HpLe.nil):p:=h
theorem ZcN(h:p:=by exact HpLe.cons (Af rfl)<|HpLe.cons (Aj rfl)<|HpLe.cons (OwLe.row ZbV)<|HpLe.nil):p:=h
theorem ZcO(h:p:=by exact HpLe.cons (Af rfl)<|HpLe.cons (OwLe.row ZbV)<|HpLe.cons (Aj rfl)<|HpLe.nil):p:=h
theorem ZcP(h:p:=by refine DSteps.q rfl ZbI ?_;refine DSteps.q rfl ZbI ?_;refine DSteps.q rfl ZbI ?_;refine DSteps.q rfl ZbI ?_;refine DSteps.q rfl ZbI ?_;refine DSteps.q rfl (λ_=>EX (ah rfl) y (ArgsLe.cons rfl (D.le.refl _) (ArgsLe.cons rfl (D.le.refl _) ArgsLe.nil))) ?_;refine DSteps.q rfl (λ_=>CI (ah rfl) (Aa rfl) (Aa rfl) rfl rfl rfl rfl rfl) ?_;refine DSteps.k rfl (DTurn.rows rfl rfl rfl (Aa rfl) (Aa rfl) rfl rfl rfl rfl Zhz Zhz) ?_;refine DSteps.q rfl ZbI ?_;exact DSteps.nil):p:=h
theorem ZcQ(h:p:=by rw[Ec ZbK];omega):p:=h
theorem ZcR(h:p:=by exact HpLe.cons (OwLe.row ZbV)<|HpLe.cons (Aj rfl)<|HpLe.nil):p:=h
theorem ZcS(h:p:=by rw[Int.tdiv_eq_ediv_of_nonneg ZbK,Ec ZbK];omega):p:=h
theorem ZcT(h:p:=by exact HpLe.cons (OwLe.row ZbV)<|HpLe.cons (Aj rfl)<|HpLe.cons (Af rfl)<|HpLe.nil):p:=h
theorem ZcU(h:p:=by exact Yr<|HpLe.cons (Aj rfl)<|HpLe.cons (Af rfl)<|HpLe.nil):p:=h
theorem ZcV(h:p:=by rw[Int.tmod_eq_emod_of_nonneg ZbK];omega):p:=h
theorem ZcW(h:p:=by exact Yp<|Yp<|Yd<|FrLe.nil):p:=h
theorem ZcX(h:p:=by simp[Op.operands,Call.operands]):p:=h
theorem ZcY(h:p:=by simpa using h):p:=h
theorem ZcZ(h:p:=by exact Yp<|Yp<|Yp<|Yd<|FrLe.nil):p:=h
theorem Zda(h:p:=by exact Yp<|FrLe.cons rfl (AVle.own rfl)<|FrLe.nil):p:=h
theorem Zdb(h:p:=by refine Dj (Aa rfl) (Aa rfl) rfl rfl rfl rfl rfl ?_;refine⟨_,PartOk.one rfl (by exact Fj rfl),?_⟩;refine⟨_,rfl,?_⟩;refine⟨_,rfl,?_⟩;rfl):p:=h
theorem Zdc(h:p:=by rw[<-t.out];omega):p:=h
theorem Zdd(h:p:=by exact HpLe.cons (OwLe.row (by simp[CX]))<|HpLe.cons (Aj rfl)<|HpLe.nil):p:=h
theorem Zde(h:p:=by exact ArgsLe.cons rfl (D.le.refl _) ArgsLe.nil):p:=h
theorem Zdf(h:p:=by apply Yv;apply Yv;(refine HpLe.cons (OwLe.row ((Hs Of _ ⟨c*(BJ P k).c,Cy m (BJ P k).m⟩).trans (by rw[<-q];simp[Uc]))) ?_);exact HpLe.nil):p:=h
theorem Zdg(h:p:=by simpa using A):p:=h
theorem Zdh(h:p:=by repeat (first | exact FrLe.nil | refine Yp ?_ | refine Yd ?_)):p:=h
theorem Zdi(h:p:=by exact Yd<|Yd<|Yd<|FrLe.cons rfl (AVle.own rfl)<|Yd<|FrLe.nil):p:=h
theorem Zdj(h:p:=by rw[K];exact Zhz):p:=h
theorem Zdk(h:p:=by exact HpLe.cons (Af rfl)<|HpLe.cons (Aj rfl)<|HpLe.cons (Af rfl)<|HpLe.cons (Af rfl)<|HpLe.cons (OwLe.obj rfl)<|HpLe.nil):p:=h
theorem Zdl(h:p:=by exact Yd<|Yd<|Yd<|Yd<|Yd<|Yd<|FrLe.nil):p:=h
theorem Zdm(h:p:=by exact Yv<|HpLe.nil):p:=h
theorem Zdn(h:p:=by rw[F];simp[Op.operands,Call.operands]):p:=h
theorem Zdo(h:p:=by simpa using K):p:=h
theorem Zdp(h:p:=by refine HpLe.cons (Af rfl) ?_;(refine HpLe.cons (OwLe.row (by rw[Y];simp)) ?_);exact HpLe.cons (Aj rfl)<|HpLe.nil):p:=h
theorem Zdq(h:p:=by rw[<-O.out];omega):p:=h
theorem Zdr(h:p:=by rw[j.out.1];omega):p:=h
theorem Zds(h:p:=by rw[DI,<-List.append_assoc]):p:=h
theorem Zdt(h:p:=by exact Yd<|Yd<|Yp<|Yp<|Yd<|FrLe.nil):p:=h
theorem Zdu(h:p:=by first | exact Ev | exact One.own rfl | exact One.ep):p:=h
theorem Zdv(h:p:=by rw[G];simp[Op.operands]):p:=h
theorem Zdw(h:p:=by rw[Q];simp[Op.operands]):p:=h
theorem Zdx(h:p:=by rw[T.out.2.2.2.1];omega):p:=h
theorem Zdy(h:p:=by exact Yd<|Yp<|Yp<|Yd<|FrLe.nil):p:=h
theorem Zdz(h:p:=by exact HpLe.cons (OwLe.varD rfl) (HpLe.cons (OwLe.varD rfl) (HpLe.cons (Aj rfl) HpLe.nil))):p:=h
theorem ZdA(h:p:=by simp[execOp,G,go_sem]):p:=h
theorem ZdB(h:p:=by refine HpLe.cons (OwLe.cells Zce) ?_;refine HpLe.cons (OwLe.cells Zce) ?_;exact HpLe.nil):p:=h
theorem ZdC(h:p:=by rw[List.length_append];omega):p:=h
theorem ZdD(h:p:=by repeat (first | exact HpLe.nil | apply Yv)):p:=h
theorem ZdE(h:p:=by rintro _ _ ⟨x,P,h,_⟩;rw[B]at h;cases h):p:=h
theorem ZdF(h:p:=by rw[<-t.out,<-L.out]):p:=h
theorem ZdG(h:p:=by exact Yd<|Yd<|Yp<|Yd<|Yd<|Yd<|FrLe.nil):p:=h
theorem ZdH(h:p:=by exact Yp<|Yp<|Yp<|Yd<|Yd<|Yd<|FrLe.nil):p:=h
theorem ZdI(h:p:=by simp[results,Tryz.results239,go_sem,F]):p:=h
theorem ZdJ(h:p:=by exact Yr<|HpLe.nil):p:=h
theorem ZdK(h:p:=by show 7*i<=64;omega):p:=h
theorem ZdL(h:p:=by simpa[Nat.blt_eq]using C):p:=h
theorem ZdM(h:p:=by exact h):p:=h
theorem ZdN(h:p:=by exact FrLe.cons rfl (AVle.ptr rfl) (FrLe.cons rfl (AVle.ptr rfl) FrLe.nil)):p:=h
theorem ZdO(h:p:=by rw[F];simp[Op.operands]):p:=h
theorem ZdP(h:p:=by rw[S];simp[Op.operands]):p:=h
theorem ZdQ(h:p:=by cases q<;>rfl):p:=h
theorem ZdR(h:p:=by simpa using B):p:=h
theorem ZdS(h:p:=by show 0<v.getD (m+1) 0;have:v.getD (m+2-1) 0=v.getD (m+1) 0:=rfl;omega):p:=h
theorem ZdT(h:p:=by rw[xn.out];omega):p:=h
theorem ZdU(h:p:=by exact HpLe.cons (OwLe.row Zds)<|HpLe.cons (Aj rfl)<|HpLe.cons (Af rfl)<|HpLe.nil):p:=h
theorem ZdV(h:p:=by exact Yd<|Yd<|Yd<|Yd<|Yd<|FrLe.cons rfl (AVle.own rfl)<|Yd<|FrLe.nil):p:=h
theorem ZdW(h:p:=by exact Yp<|Yp<|Yd<|FrLe.cons rfl (AVle.own rfl)<|Yd<|Yd<|Yd<|FrLe.nil):p:=h
theorem ZdX(h:p:=by simp[QT, *]):p:=h
theorem ZdY(h:p:=by simp[execOp,F,go_sem]):p:=h
theorem ZdZ(h:p:=by simp[execOp,L,go_sem]):p:=h
theorem Zea(h:p:=by refine HpLe.cons (OwLe.row (Hs Of R (BJ P i))) ?_;exact HpLe.nil):p:=h
theorem Zeb(h:p:=by refine HpLe.cons (OwLe.row (Hs Of R (BJ Q k))) ?_;exact HpLe.nil):p:=h
theorem Zec(h:p:=by rw[w];exact Nat.div_le_self _ _):p:=h
theorem Zed(h:p:=by simp only[BB,Nat.pow_one];omega):p:=h
theorem Zee(h:p:=by exact Yp<|Yd<|Yd<|Yd<|FrLe.nil):p:=h
theorem Zef(h:p:=by exact HpLe.cons (OwLe.row Zds)<|HpLe.cons (Aj rfl)<|HpLe.nil):p:=h
theorem Zeg(h:p:=by exact Yd<|Yp<|Yp<|FrLe.cons rfl (AVle.own rfl)<|Yd<|FrLe.nil):p:=h
theorem Zeh(h:p:=by rw[K];exact Z):p:=h
theorem Zei(h:p:=by simpa using E):p:=h
theorem Zej(h:p:=by exact FrLe.cons rfl (AVle.own rfl)<|Yp<|Yd<|Yd<|FrLe.nil):p:=h
theorem Zek(h:p:=by simp[Wd, *]):p:=h
theorem Zel(h:p:=by rw[Nat.eq_of_beq_eq_true T,show m+1-m-1=0 by omega];rfl):p:=h
theorem Zem(h:p:=by exact HpLe.cons (Af rfl)<|HpLe.cons (Aj rfl)<|HpLe.nil):p:=h
theorem Zen(h:p:=by rw[<-L.out];omega):p:=h
theorem Zeo(h:p:=by rw[<-l.out];omega):p:=h
theorem Zep(h:p:=by rw[Y]at I;exact I):p:=h
theorem Zeq(h:p:=by rw[IntKind.wrap_i64];omega):p:=h
theorem Zer(h:p:=by exact FrLe.cons rfl (AVle.own rfl)<|Yd<|FrLe.nil):p:=h
theorem Zes(h:p:=by rw[Br];exact xf):p:=h
theorem Zet(h:p:=by rw[N];simp[Op.operands]):p:=h
theorem Zeu(h:p:=by rw[Y];simp[Op.operands]):p:=h
theorem Zev(h:p:=by simp only[maxLen];omega):p:=h
theorem Zew(h:p:=by rw[show rgP kind u m v S=false from q];simp[k]):p:=h
theorem Zex(h:p:=by simp[execOp,e6,go_sem]):p:=h
theorem Zey(h:p:=by simp[execOp,e7,go_sem]):p:=h
theorem Zez(h:p:=by simp[execOp,e8,go_sem]):p:=h
theorem ZeA(h:p:=by have:=(List.getElem?_eq_some_iff.1 R).1;omega):p:=h
theorem ZeB(h:p:=by rw[Nat.blt_eq,Nat.eq_of_beq_eq_true T];omega):p:=h
theorem ZeC(h:p:=by rw[e]):p:=h
theorem ZeD(h:p:=by simp[execOp,resolve,invoke,p,xc,xe,go_sem]):p:=h
theorem ZeE(h:p:=by rw[Z,o];omega):p:=h
theorem ZeF(h:p:=by simpa using F):p:=h
theorem ZeG(h:p:=by simpa using O):p:=h
theorem ZeH(h:p:=by simpa using R):p:=h
theorem ZeI(h:p:=by rw[Nat.add_assoc,Nat.add_comm 1];exact I):p:=h
theorem ZeJ(h:p:=by simp[execOp,resolve,invoke,p,e9,go_sem]):p:=h
theorem ZeK(h:p:=by simp[results,Tryz.results290,go_sem,xa]):p:=h
theorem ZeL(h:p:=by exact Yd<|Yp<|Yp<|Yd<|Yd<|Yd<|FrLe.nil):p:=h
theorem ZeM(h:p:=by simp[results,Tryz.results139,go_sem,I]):p:=h
theorem ZeN(h:p:=by simp[results,Tryz.results141,go_sem,I]):p:=h
theorem ZeO(h:p:=by simp[results,Tryz.results236,go_sem,F]):p:=h
theorem ZeP(h:p:=by simp[results,Tryz.results291,go_sem,N]):p:=h
theorem ZeQ(h:p:=by rw[t];simp[Op.operands,Call.operands]):p:=h
theorem ZeR(h:p:=by show m<=(J.hp++[_]).length;exact Zhz):p:=h
theorem ZeS(h:p:=by rw[<-M.out];omega):p:=h
theorem ZeT(h:p:=by rw[<-Q.out];omega):p:=h
theorem ZeU(h:p:=by rw[<-U.out];omega):p:=h
theorem ZeV(h:p:=by rw[b];simp[BU,BY]):p:=h
theorem ZeW(h:p:=by rw[BS Cm Q,<-List.append_assoc];rfl):p:=h
theorem ZeX(h:p:=by rw[Int.sign_eq_one_of_pos h];decide):p:=h
theorem ZeY(k:q)(h:Zaa q->p:=by intro qq;refine Go ?_;refine AH [0] [] [] (I) (BK rfl) (λX=>(by repeat (first | exact AB (Gl X) | apply As | apply PanQ.block | apply PanQ.loop):PanQ _ _) _) rfl rfl ZbH ZbG ZbN ZbE ZbJ trivial rfl ?_;exact qq.a):p:=h ⟨k⟩
theorem ZeZ(k:q)(h:Zaa q->p:=by intro qq;refine Go ?_;refine AH [0] [0] [] (I) (BK rfl) (λX=>(by repeat (first | exact AB ZcI | apply As | apply PanQ.block | apply PanQ.loop):PanQ _ _) _) rfl rfl ZbH ZbG ZbN ZbE ZbJ trivial rfl ?_;exact qq.a):p:=h ⟨k⟩
theorem Zfa(k:q)(h:Zaa q->p:=by intro qq;refine Go ?_;refine FinP.ret (RetsA.d (Ah (ResV.cell rfl rfl (Aa rfl) rfl rfl rfl) (D.le.refl _))) rfl ?_ rfl;exact qq.a):p:=h ⟨k⟩
theorem Zfb(k:q)(h:Zaa q->p:=by intro qq;refine Go ?_;refine AH [0] [] [] (I) (BK rfl) (λX=>(by repeat (first | exact AB (Rd.none X) | apply As | apply PanQ.block | apply PanQ.loop):PanQ _ _) _) rfl rfl ZbH ZbG ZbN ZbE ZbJ trivial rfl ?_;exact qq.a):p:=h ⟨k⟩
theorem Zfc(k:q)(h:Zaa q->p:=by intro qq;refine Go ?_;refine Am (L.length-(k+1)) ZbK ⟨k+1,by omega,rfl,rfl⟩ ?_;exact qq.a):p:=h ⟨k⟩
theorem Zfe(h:p:=by refine Go ?_;exact Ak (Ah (ResV.tmp rfl rfl) (Ac (congrArg (λz=>ex (.bool z)) Zci)))):p:=h
theorem Zfg(h:p:=by refine Go ?_;exact Ak (Ah (ResV.cell rfl rfl (Aa rfl) rfl rfl rfl) (CH ZbR))):p:=h
theorem Zfh(h:p:=by refine Go ?_;exact Ak (Ah (ResV.cell rfl rfl (Aa rfl) rfl rfl rfl) (D.le.refl _))):p:=h
theorem Zfi(h:p:=by refine Go ?_;exact Yf):p:=h
theorem Zfj(k:q)(h:Zaa q->p:=by intro qq;refine Wq (DG (r:=((k+1:Nat):Int)) (ao rfl) (ao rfl) ZcQ) ?_;refine Go ?_;exact qq.a):p:=h ⟨k⟩
theorem Zfk(k:q)(h:Zaa q->p:=by intro qq;refine Go ?_;refine AD [0,1] [] [] (g) ZbF rfl rfl ZbH ZbG ZbN ZbE ZbJ trivial rfl ?_;exact qq.a):p:=h ⟨k⟩
theorem Zfm(k:q)(h:Zaa q->p:=by intro qq;refine Go ?_;refine AD [0,1] [] [] (A) ZbF rfl rfl ZbH ZbG ZbN ZbE ZbJ trivial rfl ?_;exact qq.a):p:=h ⟨k⟩
theorem Zfn(k:q)(h:Zaa q->p:=by intro qq;refine Cw ?_;refine Go ?_;exact qq.a):p:=h ⟨k⟩
theorem Zfo(k:q)(h:Zaa q->p:=by intro qq;refine Wq (Ea (ao rfl)) ?_;refine AD [0,1] [] [] (I) ZbF rfl rfl ZbH ZbG ZbN ZbE ZbJ trivial rfl ?_;exact qq.a):p:=h ⟨k⟩
theorem Zfp(k:q)(h:Zaa q->p:=by intro qq;refine Kr ?_;refine Go ?_;exact qq.a):p:=h ⟨k⟩
theorem Zfq(k:q)(h:Zaa q->p:=by intro qq;refine Kr ?_;refine Wq (CI (ao rfl) (Aa rfl) (Aa rfl) rfl rfl rfl rfl rfl) ?_;exact qq.a):p:=h ⟨k⟩
theorem Zfr(h:p:=by refine Go ?_;exact Ak (Ah (ResV.cell rfl rfl (Aa rfl) rfl rfl rfl) (Ac ZdX))):p:=h
theorem Zfs(h:p:=by refine Go ?_;exact Ak (Ah (ResV.cell rfl rfl (Aa rfl) rfl rfl rfl) (Ac Zek))):p:=h
theorem Zfu(h:p:=by refine Am (s.length-(k+1)) ZbK ⟨k+1,by omega,rfl,rfl⟩ ?_;exact Ad Zcg ZcM):p:=h
theorem Zfv(k:q)(h:Zaa q->p:=by intro qq;refine Go ?_;refine Am (P.length-(k+1)) ZbK ⟨k+1,by omega,rfl,rfl⟩ ?_;exact qq.a):p:=h ⟨k⟩
theorem Zfz(h:p:=by rw[List.getD_eq_getElem?_getD,List.getElem?_eq_getElem h];exact List.getElem_mem h):p:=h
theorem ZfA(h:p:=by refine Am (L.length-(k+1)) ZbK ⟨k+1,by omega,rfl,rfl⟩ ?_;exact Ad Zcj Zch):p:=h
theorem ZfB(k:q)(h:Zaa q->p:=by intro qq;refine Go ?_;refine AD [0,1] [] [] (B) ZbF rfl rfl ZbH ZbG ZbN ZbE ZbJ trivial rfl ?_;exact qq.a):p:=h ⟨k⟩
theorem ZfC(h:p:=by rw[Array.getD_eq_getD_getElem?,Array.getElem?_append_left Zhz];simp):p:=h
theorem ZfD(h:p:=by have A:=xN.out _ _ Z.out.2.2 (by rw[Br];exact xd.out);exact⟨q-1,by go_num,by have:=A.1;rw[Br]at this;exact this,xe.out _ _ Z.out.2.2 Z.out.2.1 A.1 A.2,p.out.1,p.out.2.drewN _⟩):p:=h
theorem ZfE(h:p:=by have A:=xw.out _ _ Z.out.2.2 (by rw[Br];exact a.out);exact⟨q-1,by go_num,by have:=A.1;rw[Br]at this;exact this,c.out _ _ Z.out.2.2 Z.out.2.1 A.1 A.2,S.out.drewN _⟩):p:=h
theorem ZfF(h:p:=by go_wp2;exact⟨⟨q-1,r+U,by go_num,by go_num,by have:=xd.out;omega,by have:=M.out;omega,⟨Z.out.2.2,Z.out.2.1⟩,p.out.1,p.out.2.drewN _⟩,by simp[intOf];omega⟩):p:=h
theorem ZfI(k:q)(h:Zaa q->p:=by intro qq;refine Go ?_;refine Wq (Ea (ao rfl)) ?_;exact qq.a):p:=h ⟨k⟩
theorem ZfJ(h:p:=by go_wp2;exact⟨⟨q-1,r+W,by go_num,by go_num,by have:=a.out;omega,by have:=I.out;omega,⟨Z.out.2.2,Z.out.2.1⟩,S.out.drewN _⟩,by simp[intOf];omega⟩):p:=h
theorem ZfM(h:p:=by rw[T.out.1]at this;exact this):p:=h
theorem ZfP(h:p:=by have heq:(Op.equalIn Op.maxDepth t (.bool q) (.bool uh)).run P w=.ok (q==uh) w:=run_equalIn_bool w 9999 t q uh h;simp[eqGuard,binOp,Op.equal,heq]):p:=h
theorem ZfQ(h:p:=by have V:Hid (((r:Int)*4294967296+x)/d%4294967296=((r*4294967296+x)/d:Nat)/\((r:Int)*4294967296+x)%d=((r*4294967296+x)%d:Nat)):=WV G h g;go_wp2;refine⟨⟨k,(r*4294967296+x)%d,_,by omega,rfl,by rw[V.out.2],Nat.mod_lt _ f,T.out.step C O.out.symm E.out f G g h V.out.1⟩,by simp[intOf]⟩):p:=h
theorem ZfR(h:p:=by refine Go ?_;exact Ak (Vu (ResV.cell rfl rfl (Aa rfl) rfl rfl rfl) (ResV.cell rfl rfl (Aa rfl) rfl rfl rfl) (ResV.tmp rfl rfl) (D.le.refl _))):p:=h
theorem ZfS(h:p:=by have heq:(Op.equalIn Op.maxDepth 112 (.agg (c8 a)) (.agg (c8 b))).run Tryz.prog w=.ok (JK a b) w:=HK a b w;simp[eqGuard,binOp,Op.equal,heq]):p:=h
theorem ZfT(h:p:=by have heq:(Op.equalIn Op.maxDepth 36 (.agg (c8 a)) (.agg (c8 b))).run Tryz.prog w=.ok (JK a b) w:=Pf a b w;simp[eqGuard,binOp,Op.equal,heq]):p:=h
theorem ZfU(h:p:=by simp[IntKind.wrap,IntKind.bits,IntKind.signed];omega):p:=h
theorem ZfX(k:q)(h:Zaa q->p:=by intro qq;refine Go ?_;refine Am (2-(k+1)) ZbK ⟨k+1,by omega,rfl,rfl⟩ ?_;exact qq.a):p:=h ⟨k⟩
theorem ZfY(k:q)(h:Zaa q->p:=by intro qq;refine Kr ?_;refine Zfc ?_;exact qq.a):p:=h ⟨k⟩
theorem ZfZ(k:q)(h:Zaa q->p:=by intro qq;rw[Tryz.ntmps24];refine Go ?_;refine Dy 9 ?_;refine Cw ?_;refine⟨_,HStep.q rfl (DP 3 rfl rfl ZbK),?_⟩;exact qq.a):p:=h ⟨k⟩
theorem Zga(h:p:=by refine Go ?_;refine Zfj ?_;refine Am (n-(k+1)) ZbK ⟨k+1,Z++[x],M,by omega,rfl,by simp[N],m,Dn Q b B,rfl⟩ ?_;exact Ad ZbT ZcN):p:=h
theorem Zgb(h:p:=by rintro e K ⟨T,z,Z,q,rfl,xb,Q⟩;exact⟨_,rfl,Q,T,z,Z,q,rfl,by rw[Aw,Aw,Aw,h.out.bool_eq,a.out.bool_eq,SC]at xb;exact xb⟩):p:=h
theorem Zgc(h:p:=by refine Go ?_;exact Ak (Rets.of2 (ResV.cell rfl rfl (Aa rfl) rfl rfl rfl) (ResV.tmp rfl rfl) (Bb (D.le.refl _) (D.le.refl _)))):p:=h
theorem Zgd(h:p:=by refine CR (ao rfl) ?_;exact(by repeat (first | exact AB (X.symm) | apply As | apply PanQ.block | apply PanQ.loop):PanQ _ _) _):p:=h
theorem Zge(h:p:=by go_ret;exact⟨by rw[Qg (k:=q) ZdF Zdc (λi M=>T.out.2 i M) (by rw[V.out,a.out];exact hgt)];rfl,(T.out.1.drewN _).drewN _⟩):p:=h
theorem Zgf(k:q)(h:Zaa q->p:=by intro qq;refine Go ?_;refine AD [0,1] [] [] (I) ZbF rfl rfl ZbH ZbG ZbN ZbE ZbJ trivial rfl ?_;exact qq.a):p:=h ⟨k⟩
theorem Zgg(h:p:=by rw[List.getD_eq_getElem?_getD,List.getElem?_eq_getElem C,e];rfl):p:=h
theorem Zgh(h:p:=by refine Go ?_;exact Ak (Ah (ResV.tmp rfl rfl) (Ac (congrArg (λz=>ex (.bool z)) (by rw[Bool.eq_iff_iff];simp[Dq, *]))))):p:=h
theorem Zgi(h:p:=by refine Wq (Ib (r:=((k:Nat):Int)) (ao rfl) (ao rfl) ((Gz (BF V 1%((2^3:Nat):Int)) (j:=2) ZbK).trans ZbK)) ?_;exact Zfg):p:=h
theorem Zgj(h:p:=by refine Cw ?_;exact Zfi):p:=h
theorem Zgk(h:p:=by refine Go ?_;exact Ak (Ah (ResV.tmp rfl rfl) (Ac (by rw[Z])))):p:=h
theorem Zgl(k:q)(h:Zaa q->p:=by intro qq;refine Go ?_;refine Wq (DU (ao rfl) (Aa rfl)) ?_;exact qq.a):p:=h ⟨k⟩
theorem Zgm(h:p:=by congr 1;omega):p:=h
theorem Zgn(h:p:=by rw[Nat.succ_mul]at this;omega):p:=h
theorem Zgo(h:p:=by refine Xg (DO (n:=m) (ah rfl) (ah rfl) O o) ?_;exact Zgj):p:=h
theorem Zgp(h:p:=by have:=Cn (c:=n) T.out.2.2.1 T.out.2.1 Zcr ZbK;exact ZfM):p:=h
theorem Zgq(k:q)(h:Zaa q->p:=by intro qq;refine Go ?_;refine Am 0 ZbK ⟨r*y,2,.inr (.inr ⟨rfl,rfl,rfl⟩),rfl⟩ ?_;exact qq.a):p:=h ⟨k⟩
theorem Zgr(k:q)(h:Zaa q->p:=by intro qq;refine HYSteps.cons (.q rfl (Bt rfl (Aa rfl) rfl (Aa rfl) rfl rfl)) ?_;refine HYSteps.cons (.q rfl (Bt rfl (Aa rfl) rfl (Aa rfl) rfl rfl)) ?_;exact qq.a):p:=h ⟨k⟩
theorem Zgs(h:p:=by refine Zfn ?_;exact Ak (Ah (ResV.cell rfl rfl (Aa rfl) rfl rfl rfl) (Ac (congrArg AJ (DF G.1 G.2))))):p:=h
theorem Zgw(h:p:=by refine Go ?_;exact Ak (Ah (ResV.cell rfl rfl (Aa rfl) rfl rfl rfl) (Ac (congrArg AJ (DF Z.1 Z.2))))):p:=h
theorem Zgx(h:p:=by obtain⟨k,rfl⟩:∃k,q=k+1:=⟨q-1,by omega⟩;rw[Nat.add_sub_cancel,Nat.add_mul,Nat.one_mul]):p:=h
theorem Zgy(h:p:=by obtain⟨A1,n1,f,rfl⟩:=H.form;exact⟨_,rfl,T,_,_,_,rfl,by rw[AU (BR _),Aw]at H;exact H⟩):p:=h
theorem Zgz(k:q)(h:Zaa q->p:=by intro qq;refine AW (Lv 1 0 5 1 rfl rfl ZbN ZbK rfl rfl rfl rfl) ?_;refine AD [1,2] [] [] (c) ZbF rfl rfl ZbH ZbG ZbN ZbE ZbJ trivial rfl ?_;exact qq.a):p:=h ⟨k⟩
theorem ZgA(h:p:=by rw[<-G]at B;exact⟨_,N,B,Y,e3,.inl e4,e5,λb F=>by cases F;exact .inr (Nat.le_refl _)⟩):p:=h
theorem ZgB(h:p:=by have:=JW (hp:=hp) (dd:=dd) (ty:=ty) (ps:=ps) (af:=af) (gd:=gd) (U:=U) E O;rwa [h]at this):p:=h
theorem ZgC(h:p:=by refine Go ?_;exact Ak (Ah (ResV.tmp rfl rfl) (D.le.trans Nm (Kb (by rw[FG,if_pos B]))))):p:=h
theorem ZgD(h:p:=by rw[List.append_assoc,List.take_append,f,Nat.sub_self,List.take_of_length_le ZbK];simp):p:=h
theorem ZgE(h:p:=by simp only[List.getD_eq_getElem?_getD,List.getElem?_take]at this;simpa using this.symm):p:=h
theorem ZgF(k:q)(h:Zaa q->p:=by intro qq;refine Dy 12 ?_;refine Zfn ?_;exact qq.a):p:=h ⟨k⟩
theorem ZgG(h:p:=by have F:G (.tmp 1)=.pointer (some ⟨w.heap.size,0,none⟩):=s 1 ZbN;exact Ar ZdY rfl):p:=h
theorem ZgH(h:p:=by have X:h (.tmp 5)=.int .i64 (k:Int):=s 5 ZbN;exact Ar (by simp[execOp,X,go_sem]) rfl):p:=h
theorem ZgI(h:p:=by rw[List.append_assoc,List.drop_append,List.drop_eq_nil_of_le ZbK,f,Nat.sub_self];rfl):p:=h
theorem ZgJ(h:p:=by have xd:F (.tmp 12)=.pointer (some ⟨w.heap.size+1,1,none⟩):=E.1 _ rfl;have m:N.cell? ⟨w.heap.size+1,1,none⟩=some (.slice O Y f):=S.cellv ((((Eb _ _ ZbV).alloc _).drew.cell 1));exact Ar (by simp[execOp,xd,m,go_sem]) rfl):p:=h
theorem ZgK(h:p:=by rw[List.getD_eq_getElem?_getD,List.getElem?_eq_getElem C];exact List.getElem_mem C):p:=h
theorem ZgL(h:p:=by have t:F (.tmp 7)=.pointer (some ⟨w.heap.size+1,0,none⟩):=E.1 _ rfl;have m:N.cell? ⟨w.heap.size+1,0,none⟩=some (.bool r):=S.cellv ((((Eb _ _ ZbV).alloc _).drew.cell 0));exact Ar (by simp[execOp,t,m,go_sem]) rfl):p:=h
theorem ZgM(h:p:=by have xa:F (.tmp 10)=.pointer (some ⟨w.heap.size,1,none⟩):=E.1 _ rfl;have m:N.cell? ⟨w.heap.size,1,none⟩=some (.slice A n c):=S.cellv (((((Blk.new _ _ _).alloc _).alloc _).drew.cell 1));exact Ar (by simp[execOp,xa,m,go_sem]) rfl):p:=h
theorem ZgN(h:p:=by have U:F (.tmp 8)=.bool r:=E.2.1 _ rfl;exact Ar (by simp[execOp,l,U,go_sem]) rfl):p:=h
theorem ZgO(h:p:=by rw[List.take_append_drop,List.length_take,Nat.min_eq_left ZbK]at this;exact this):p:=h
theorem ZgP(h:p:=by have W:F (.tmp 5)=.pointer (some ⟨w.heap.size,0,none⟩):=E.1 _ rfl;have m:N.cell? ⟨w.heap.size,0,none⟩=some (.bool b):=S.cellv (((((Blk.new _ _ _).alloc _).alloc _).drew.cell 0));exact Ar (by simp[execOp,W,m,go_sem]) rfl):p:=h
theorem ZgT(h:p:=by go_ret;exact⟨by rw[JR (by rw[<-t.out,<-L.out];exact hgt)];rfl,Ext.refl _⟩):p:=h
theorem ZgU(h:p:=by refine Am (P.length-(k+1)) ZbK ⟨k+1,by omega,rfl,rfl⟩ ?_;exact Ad Zdy Zcs):p:=h
theorem ZgV(k:q)(h:Zaa q->p:=by intro qq;refine Kr ?_;apply AWl.nil;exact qq.a):p:=h ⟨k⟩
theorem ZgX(h:p:=by refine Ab Tryz.func76 λC=>?_;rw[Tryz.ntmps76];exact Zfi):p:=h
theorem ZgY(h:p:=by rw[List.take_take,List.take_take,Nat.min_eq_left ZbK]at this;exact this.symm):p:=h
theorem ZgZ(h:p:=by obtain⟨A1,n1,f,rfl⟩:=H.form;exact⟨_,rfl,T,_,_,_,rfl,by skip;exact H⟩):p:=h
theorem Zha(h:p:=by refine Go ?_;exact Ak (Ah (ResV.tmp rfl rfl) (Ac (by rw[Kq];congr 3;omega)))):p:=h
theorem Zhb(h:p:=by go_ret;exact⟨by rw[JQ (by rw[<-t.out,<-L.out];exact Q)];rfl,Ext.refl _⟩):p:=h
theorem Zhc(h:p:=by refine Go ?_;exact Ak (Ah (ResV.tmp rfl rfl) (Ac (by rw[FG,if_neg B];rfl)))):p:=h
theorem Zhd(h:p:=by have F:G (.tmp 1)=.pointer (some ⟨z,0,none⟩):=s 1 ZbN;exact Ar ZdY rfl):p:=h
theorem Zhe(h:p:=by rw[List.getD_eq_getElem?_getD,List.getElem?_map,List.getElem?_range C];rfl):p:=h
theorem Zhf(h:p:=by refine Go ?_;refine Wq (Ea (ao rfl)) ?_;refine AH [0] [] [] (I) (BK rfl) (λX=>(by repeat (first | exact AB (X) | apply As | apply PanQ.block | apply PanQ.loop):PanQ _ _) _) rfl rfl ZbH ZbG ZbN ZbE ZbJ trivial rfl ?_;rintro _ _ ⟨x,o,A,U,rfl,rfl⟩;refine Zfp ?_;refine FinP.ret (RetsA.one rfl) rfl ?_ rfl;exact⟨x,o,A,U,rfl,rfl⟩):p:=h
theorem Zhg(h:p:=by show(if s1.w.heap.size=s1.w.heap.size then i+1 else _)=i+1;rw[if_pos rfl]):p:=h
theorem Zhh(h:p:=by rw[e];exact⟨(Int.natCast_ediv _ _).symm,(Int.natCast_emod _ _).symm⟩):p:=h
theorem Zhi(h:p:=by refine Am (8-(k+1)) ZbK ⟨k+1,by omega,rfl,rfl⟩ ?_;exact Ad Zcm Zdm):p:=h
theorem Zhj(h:p:=by refine Am (8-(j+1)) ZbK ⟨j+1,by omega,rfl,rfl⟩ ?_;exact Ad Zcw Zef):p:=h
theorem Zhk(h:p:=by intro N F S E s I p;have G:F (.tmp 2)=.pointer (some ⟨w.heap.size,0,none⟩):=s 2 ZbN;exact Ar ZdA rfl):p:=h
theorem Zhl(h:p:=by intro N F S E s I p;have L:F (.tmp 3)=.pointer (some ⟨w.heap.size+1,0,none⟩):=s 3 ZbN;exact Ar ZdZ rfl):p:=h
theorem Zhm(h:p:=by rw[Nat.mul_add];omega):p:=h
theorem Zhn(h:p:=by simp only[down,F];rfl):p:=h
theorem Zho(h:p:=by refine FinP.ret (RetsA.one rfl) rfl ?_ rfl;exact⟨_,_,R,B,rfl,rfl⟩):p:=h
theorem Zhp(h:p:=by refine Zfn ?_;exact Ak (Ah (ResV.tmp rfl rfl) (Ac (by rw[heq,Z,e])))):p:=h
theorem Zhq(h:p:=by have:(r+1)*4294967296<=d*4294967296:=Nat.mul_le_mul_right _ b;omega):p:=h
theorem Zhr(h:p:=by go_ret;exact⟨by rw[d.out];rfl,(T.out.2.2.2.2.drewN _).drewN _⟩):p:=h
theorem Zht(h:p:=by rintro _ _ ⟨rfl,rfl⟩;refine Zfp ?_;refine Am (8-(k+1)) ZbK ⟨k+1,by omega,rfl,rfl⟩ ?_;exact Ad Zcm Zck):p:=h
theorem Zhu(h:p:=by refine AD [0,1] [] [] (I) ZbF rfl rfl ZbH ZbG ZbN ZbE ZbJ trivial rfl ?_;exact Zht):p:=h
theorem Zhv(h:p:=by go_wp2;exact⟨⟨k,_,_,by omega,rfl,xh.out⟩,by simp[intOf]⟩):p:=h
theorem Zhw(h:p:=by rw[<-Nat.add_mul];exact Zgm):p:=h
theorem Zhx(h:p:=by rw[W.out]at this;exact this):p:=h
theorem Zhy(h:p:=by refine CutS.normal () (by simp[Ug,eq3,A,B]) ?_;exact Ad ZcC ZcK):p:=h
theorem Zhz(h:p:=by simp;omega):p:=h
theorem ZhA(h:p:=by have e7:h (.tmp 7)=.int .i64 (k:Int):=s 7 ZbN;exact Ar Zey rfl):p:=h
theorem ZhB(h:p:=by have e6:h (.tmp 6)=.int .i64 (k:Int):=s 6 ZbN;exact Ar Zex rfl):p:=h
theorem ZhC(h:p:=by have e8:h (.tmp 8)=.int .i64 (j:Int):=s 8 ZbN;exact Ar Zez rfl):p:=h
theorem ZhD(h:p:=by refine Go ?_;exact Ak (Ah (ResV.tmp rfl rfl) (Ac (by rw[f])))):p:=h
theorem ZhE(h:p:=by refine Go ?_;exact Ak (Ah (ResV.tmp rfl rfl) (Ac (by rw[X])))):p:=h
theorem ZhF(k:q)(h:Zaa q->p:=by intro qq;refine Go ?_;refine HX (λJ=>AP) ?_;exact qq.a):p:=h ⟨k⟩
theorem ZhG(h:p:=by rw[Gb];refine Ab Tryz.func24 λB=>?_;refine ZfZ ?_;refine Cw ?_;exact Zfg):p:=h
theorem ZhH(h:p:=by have:=Cn (c:=m+1) T.out.2.2.1 T.out.2.1 Zcr ZbK;exact ZfM):p:=h
theorem ZhI(h:p:=by simp only[List.length_cons];omega):p:=h
theorem ZhJ(h:p:=by rw[<-Nat.succ_mul];exact Nat.mul_le_mul M (Nat.le_refl n)):p:=h
theorem ZhK(h:p:=by rw[Nat.mul_zero,Nat.add_zero];exact Nat.mod_add_div m BB):p:=h
theorem ZhL(h:p:=by rw [Nat.div_eq_of_lt Q.out,BA];exact Words.nil _ _ _ ZbK):p:=h
theorem ZhM(h:p:=by refine HX (λJ=>Bk) ?_;exact Zfe):p:=h
theorem ZhN(h:p:=by rw[IK 9998 a b W (List.range 8) ZbV]at this;exact this):p:=h
theorem ZhO(h:p:=by refine Go ?_;exact Ak (Ah (ResV.tmp rfl rfl) (Ac ZeC))):p:=h
theorem ZhP(h:p:=by rw[if_pos (by simp[Region.wanted,ck.gd])];exact .inl h):p:=h
theorem ZhQ(h:p:=by rw[List.getElem?_append_right ZbK,xr,<-r1];exact Zgm):p:=h
theorem ZhR(h:p:=by go_ret;exact⟨by rw[p.out];rfl,S.out.trans I.out⟩):p:=h
theorem ZhS(k:q)(h:Zaa q->p:=by intro qq;refine Wq (A2J (ao rfl) (ao rfl) (Aa rfl) (Aa rfl) rfl Q (HB (λ_=>rfl) Q)) ?_;refine Zgf ?_;exact qq.a):p:=h ⟨k⟩
theorem ZhT(h:p:=by rw[E]at this;exact this):p:=h
theorem ZhU(h:p:=by rw[u]at this;cases this):p:=h
theorem ZhV(h:p:=by rw[xa.size];exact(List.getElem?_eq_some_iff.1 r).1):p:=h
theorem ZhW(h:p:=by rw[List.set_eq_take_append_cons_drop,if_pos B];rfl):p:=h
theorem ZhX(h:p:=by rw[this,n];exact V.mono (Nat.le_succ _) λ_ _=>rfl):p:=h
theorem ZhY(h:p:=by rw[getD_set_ne false (λe=>I e.symm)]at h;exact h):p:=h
theorem ZhZ(h:p:=by rw[F]at h;cases h):p:=h
theorem Zia(h:p:=by rw[Nat.add_mul,<-Nat.add_assoc]at this;exact this):p:=h
theorem Zib(h:p:=by rw[show i+(j+1)=i+1+j by omega]at this;exact this):p:=h
theorem Zic(h:p:=by congr 2;exact Array.eq_empty_of_size_eq_zero ZbV):p:=h
theorem Zid(k:q)(h:Zaa q->p:=by intro qq;refine⟨M,by rw[V.out.2];rfl,?_,T.out.2.2.2.2.trans S⟩;rw[AU T.out.2.1,<-V.out.1]at a;exact qq.a):p:=h ⟨k⟩
theorem Zie(h:p:=by have:=h.how;cases this):p:=h
theorem Zif(h:p:=by refine Cw ?_;exact Zfh):p:=h
theorem Zig(h:p:=by refine Go ?_;exact Zfu):p:=h
theorem Zih(h:p:=by simpa using B):p:=h
theorem Zii(h:p:=by simp[Array.getElem?_setIfInBounds_ne this]):p:=h
theorem Zij(h:p:=by exact .inl (opStep_wp xq.2 (eval_operands H xa r E xf xe) (xs hw) λv w2 ⟨X,xy⟩=>xI v w2 _ rfl X xy)):p:=h
theorem Zik(h:p:=by exact⟨n,Nat.le_refl _,rfl,by rw[M.out,List.take_length];rfl⟩):p:=h
theorem Zil(h:p:=by exact ((((Ext.refl _).alloc _).trans S).set (Nat.le_refl _) _).set (Nat.le_refl _) _):p:=h
theorem Zim(h:p:=by exact ((((Ext.refl _).alloc _).trans F.out).set (Nat.le_refl _) _).set (Nat.le_refl _) _):p:=h
theorem Zin(h:p:=by exact(o.out.set J ZbN _).set (J.set _ _) ZbN _):p:=h
theorem Zio(h:p:=by exact .cons (Stab.eq _) (.cons (Stab.eq _) (.cons (Stab.eq _) (.cons (Stab.eq _) (.cons (Stab.eq _) (.cons (Stab.eq _) (.cons (Stab.eq _) (.cons (Stab.eq _) (.cons (Stab.eq _) (.cons (λ_ _ _ X h=>h.ext X) (.cons (λ_ _ _ X ⟨b,A,n,c,B,C⟩=>⟨b,A,n,c,B,C.ext X⟩) .nil))))))))))):p:=h
theorem Zip(h:p:=by exact ((((((Ext.refl _).alloc _).alloc _).alloc _).drew.trans S.out).set Zcz _).set Zcz _):p:=h
theorem Ziq(h:p:=by exact ⟨undef,λh=>absurd h e⟩):p:=h
theorem Zir(h:p:=by exact⟨_,M,F,⟨R,C,Z⟩,.pass (x:=.inLoop c) rfl (λ_ _=>.inl ZbV) H⟩):p:=h
theorem Zis(h:p:=by exact ⟨_,rfl,.inr ⟨rfl,by omega⟩⟩):p:=h
theorem Zit(h:p:=by exact ⟨x.df,v,A,v,rfl,E,rfl,x.le.le λ_ h=>h,B⟩):p:=h
theorem Ziu(h:p:=by exact .inr ⟨j,by omega,h3⟩):p:=h
theorem Ziv(h:p:=by exact⟨0,by omega,rfl,rfl,(Ext.refl _).alloc _⟩):p:=h
theorem Ziw(h:p:=by decide +kernel):p:=h
theorem Zix(h:p:=by exact⟨by omega,λ_=>by omega⟩):p:=h
theorem Ziy(h:p:=by rw[T.out.2.2.1.cell,Dr Zcr]):p:=h
theorem Ziz(h:p:=by simpa using this):p:=h
theorem ZiA(h:p:=by rwa [List.length_take,Nat.min_eq_left ZbK]at this):p:=h
theorem ZiB(h:p:=by exact⟨x,by simp[r],j.out.1.trans L.out.symm,j.out.2.1,j.out.2.2.1,j.out.2.2.2.1,by rw[L.out];exact B.out⟩):p:=h
theorem ZiC(h:p:=by rw[List.append_assoc,<-List.drop_drop,List.take_append_drop,List.take_append_drop]):p:=h
theorem ZiD(h:p:=by rw[h,Nat.mul_comm q,Nat.mul_add_mod,Nat.mod_eq_of_lt C]):p:=h
theorem ZiE(h:p:=by exact ((((((((Ext.refl _).alloc _).alloc _).alloc _).alloc _).trans d.out |>.set Zcz _).set Zcz _).set Zcz _).set Zcz _):p:=h
theorem ZiF(h:p:=by simp[BJ,List.getD_eq_getElem?_getD,List.getElem?_eq_getElem h]):p:=h
theorem ZiG(h:p:=by exact Option.some.inj ((Array.getElem?_eq_getElem y).symm.trans e)):p:=h
theorem ZiH(h:p:=by exact Option.some.inj ((Array.getElem?_eq_getElem y).symm.trans c)):p:=h
theorem ZiI(h:p:=by exact Option.some.inj A):p:=h
theorem ZiJ(h:p:=by exact Ad Zcp Zch):p:=h
theorem ZiK(h:p:=by exact Ak (Ah (ResV.cell rfl rfl (Aa rfl) rfl rfl rfl) (D.le.refl _))):p:=h
theorem ZiL(h:p:=by exact Ak (Ah (ResV.cell rfl rfl (Aa rfl) rfl rfl rfl) (Ac (congrArg AJ (DF rfl rfl))))):p:=h
theorem ZiM(h:p:=by exact .inl ⟨Int.sign_eq_neg_one_of_neg h,h⟩):p:=h
theorem ZiN(h:p:=by exact .inr (.inl ⟨by rw[h];rfl,h⟩)):p:=h
theorem ZiO(h:p:=by exact .inr (.inr ⟨Int.sign_eq_one_of_pos h,h⟩)):p:=h
theorem ZiP(h:p:=by simp[BJ,List.getD_eq_getElem?_getD,List.getElem?_eq_getElem C]):p:=h
theorem ZiQ(h:p:=by exact Ak (Ah (ResV.tmp rfl rfl) (Ac (by congr 2;omega)))):p:=h
theorem ZiR(h:p:=by exact ⟨x.df,v,A,.inl ⟨v,rfl,I,y,r,_,g,rfl,xf,z⟩⟩):p:=h
theorem ZiS(h:p:=by rw[heq,FF A,(List.drop_eq_nil_of_le ZbK:Q.drop k=[]),CB]):p:=h
theorem ZiT(h:p:=by exact Ad (by exact Yd<|Yd<|Yd<|Yd<|Yd<|FrLe.nil) Zch):p:=h
theorem ZiU(h:p:=by exact(show a'.eval (.const v)=v from rfl)):p:=h
theorem ZiV(h:p:=by exact(show a'.eval (.func f)=_ from rfl)):p:=h
theorem ZiW(h:p:=by exact LS (L:=L) (rs:=w) (i:=i+1) Zdo A ZeR (λj e=>by rw[if_neg ZbK];exact P j e) Y (xk b T _ e5) xi xf xd):p:=h
theorem ZiX(h:p:=by exact Nat.gcd_dvd_right _ _):p:=h
theorem ZiY(h:p:=by exact⟨rfl,by simp only[CA,List.append_assoc];rfl⟩):p:=h
theorem ZiZ(h:p:=by rw[Bn,List.length_append]):p:=h
theorem Zja(h:p:=by exact Ad ZbW ZcO):p:=h
theorem Zjb(h:p:=by exact⟨by simpa[AV.below,Nat.blt_eq]using Z,b.2⟩):p:=h
theorem Zjc(h:p:=by exact Ad ZbT Zcf):p:=h
theorem Zjd(h:p:=by exact Ad Zcb ZbQ):p:=h
theorem Zje(h:p:=by exact .inr ⟨g,cap,cur,e1,e2,(F g (by rw[e1];rfl)).1.trans e3,e4⟩):p:=h
theorem Zjf(h:p:=by exact xK k' u (by rwa [Array.getElem?_toList]at xh)):p:=h
theorem Zjg(h:p:=by exact Ad Zca (by(refine HpLe.cons (OwLe.row (by rw[Y];simp)) ?_);exact HpLe.cons (Aj rfl)<|HpLe.cons (Af rfl)<|HpLe.nil)):p:=h
theorem Zjh(h:p:=by exact Ad (by exact Yp<|Yp<|Yp<|Yd<|Yd<|FrLe.nil) Zdk):p:=h
theorem Zji(h:p:=by exact Ak (Ah (ResV.tmp rfl rfl) (Ac (congrArg (λz=>ex (.bool z)) Zcq)))):p:=h
theorem Zjj(h:p:=by exact Ak (Rets.of2 (ResV.tmp rfl rfl) (ResV.tmp rfl rfl) (Bb (Ac ZcG) (Ac ZcH)))):p:=h
theorem Zjk(h:p:=by exact Ak (Ah (ResV.tmp rfl rfl) (Ac (congrArg (λz=>ex (.bool z)) Zew)))):p:=h
theorem Zjl(h:p:=by exact ClOk.mk' [] [] rfl rfl ⟨by dsimp only;omega,PB.nil,by dsimp only;omega,by dsimp only;omega,.inl ZcD,λ_=>rfl,by simp,by simp,by simp⟩):p:=h
end
end Go.Proofs
namespace Go.Proofs.YtcikkglcoeedlaaGreat
variable{vj:Act}{vI:Array Bool}{vY:Array Oper}{vy:Array Value}{q:Bool}{vM:Exit->Act->World->Prop}{i j:Int}{l f vo:List Nat}{n b T m:Nat}{va:Oper}{uu:Operand->Value}{uv:Option Addr}{P:Program}{t:TypeId}{z v:Value}{w p:World}
section
open Go.RowKit
def Ext(w N:World):Prop:=Below w.heap.size w N
theorem Ext.refl(w:World):Ext w w:=Below.refl _ _
theorem Ext.trans{a b c:World}(h:Ext a b)(k:Ext b c):Ext a c:=Below.trans h (Below.mono k h.size)
theorem Ext.drew{a b:World}(h:Ext a b):Ext a b.drew:=Below.drew h
theorem Ext.drewN(h:Ext w p)(n:Nat):Ext w (p.drewN n):=by
 obtain⟨A,B,L,V,m⟩:=h;exact⟨A,B,L,V,m⟩
theorem Ext.size{a b:World}(h:Ext a b):a.heap.size<=b.heap.size:=Below.size h
theorem Ext.block{a b:World}(h:Ext a b){k:Nat}(C:k<a.heap.size):b.heap[k]? = a.heap[k]?:=Below.block h k C
theorem Ext.cell{a b:World}(h:Ext a b){p:Addr}(G:p.block<a.heap.size):b.cell? p=a.cell? p:=Below.cell h G
theorem Ext.frozen{a b:World}(h:Ext a b){p:Addr}(G:p.block<a.heap.size):b.frozen? p=a.frozen? p:=Below.frozen h G
theorem Ext.cellv{a b:World}(h:Ext a b){p:Addr}{v:Value}(q:a.cell? p=some v):b.cell? p=some v:=(h.cell (World.block_lt_of_cell? a p q)).trans q
theorem Ext.alloc{a b:World}(h:Ext a b)(o:Obj):Ext a (b.alloc o):=Below.alloc h h.size o
theorem Ae{p:Prop}(h:p):Hid p:=h
def OpStep(P:Program)(o:Oper)(ev:Operand->Value)(w:World)(R:Value->World->Prop):Prop:=
 match (execOp ev o).run P w with
 |.ok (.value v) N=>R v N
 |.ok .skip N=>R undef N
 |.ok (.enter f args) N=>Calls P f args N λe H=>∃v,e=.returned v/\R v H
 |_=>False
structure Shape where
 env:List (Nat×Nat)
 bef:List Nat
 deps:List Nat
def upd(g:Nat->Value)(i:Nat)(v:Value):Nat->Value:=λk=>if k=i then v else g k
def Sp(h:Operand->Value)(g:Nat->Value):List (Nat×Nat)->Prop
 |[]=>True
 |(t,j)::r=>h (.tmp t)=g j/\Sp h g r
def Ew(o:Oper)(g:Nat->Value):Bool:=
 match o.guard with
 |none=>true
 |some (j,b)=>match g j with |.bool c=>c==b |_=>false
abbrev Fact:=List Value->World->Prop
def Known(U:List Shape)(L:List Fact)(i:Nat)(g:Nat->Value)(w:World):Prop:=
 ∀x,U[i]? = some x->∀j∈x.bef,∀y F,U[j]? = some y->L[j]? = some F->F (y.deps.map g) w
def StepAt(P:Program)(U:List Shape)(L:List Fact)(a:Act)(B:World)(i:Nat)(o:Oper)(x:Shape)(F:Fact):Prop:=
 ∀(g:Nat->Value) (w:World) (h:Operand->Value),Ext B w->Known U L i g w->Sp h g x.env ->
  (∀t,(∀p∈x.env,p.1≠t)->h (.tmp t)=a.tmps.getD t undef)->(∀v,h (.const v)=v)->(∀f,h (.func f)=.func (.func f) #[] #[]) ->
  (Ew o g=true->OpStep P o h w λv N=>Ext w N/\F (x.deps.map (upd g i v)) N)/\(Ew o g=false->F (x.deps.map (upd g i undef)) w)
def StepsAt(P:Program)(U:List Shape)(A:List Fact)(a:Act)(B:World):Nat->List Oper->List Shape->List Fact->Prop
 |i,o::L,x::S,F::T=>StepAt P U A a B i o x F/\StepsAt P U A a B (i+1) L S T
 |_,_,[],[]=>True
 |_,_,_,_=>False
theorem StepsAt.at{P:Program}{U:List Shape}{M:List Fact}{a:Act}{J:World}:∀{S:List Shape} {T:List Fact} {L:List Oper} {i:Nat},StepsAt P U M a J i L S T ->
  S.length=T.length/\∀k o x,L[k]? = some o->S[k]? = some x->∃F,T[k]? = some F/\StepAt P U M a J (i+k) o x F
 |[],[],L,i,_=>⟨rfl,λk o x _ E=>by simp at E⟩
 |[],_::_,L,i,h=>by cases L<;>exact h.elim
 |_::_,[],L,i,h=>by cases L<;>exact h.elim
 |x::S,F::T,[],i,h=>h.elim
 |x::S,F::T,o::L,i,h=>Zab
def Bu(o:Oper):List Nat:=(o.after.toList.filter λe=>Region.binds .any e).map (·.on)
def CT(U:List Shape)(j:Nat):List Nat:=(U[j]?.map (·.bef)).getD []
def BI:Op->Bool
 |.select ..=>false
 |_=>true
def Et(L:List Oper)(U:List Shape)(i:Nat)(o:Oper)(x:Shape):Bool:=
 x.bef.all (λj=>(Bu o).any λe=>e==j||(CT U e).contains j) &&
 x.deps.all (λk=>k==i||x.bef.contains k) &&
 x.env.all (λp=>x.bef.contains p.2&&decide (p.2<U.length)&&(match L[p.2]? with | some l=>l.dst==some p.1 | none=>false)) &&
 o.op.operands.toList.all (fun | .tmp t=>(x.env.map (·.1)).contains t||((List.range U.length).all λj=>match L[j]? with | some l=>l.dst != some t||j==i||(CT U j).contains i | none=>true) | _=>true) &&
 (match o.guard with | some (j,_)=>x.bef.contains j&&decide (j<U.length)&&(match L[j]? with | some l=>l.dst.isSome | none=>false) | none=>true) &&
 BI o.op
def A1a(L:List Oper)(U:List Shape)(t:Nat)(o:Oper):Bool:=
 (List.range t).all λj=>(Bu o).any λe=>e==j||(if e<U.length then(CT U e).contains j else decide (j<e))
def Dt(L:List Oper)(U:List Shape):Bool:=
 decide (U.length<=L.length) &&
 L.zipIdx.all (λ(o,i)=>(Bu o).all (λe=>decide (e<i)) &&
  (match U[i]? with | some x=>Et L U i o x | none=>A1a L U i o)) &&
 (List.range U.length).all (λi=>(List.range U.length).all λj=>i==j||(match L[i]?,L[j]? with | some o,some l=>o.dst.isNone||o.dst != l.dst | _,_=>true))
def Gw(L:List Oper)(n k:Nat):Bool:=(L.take n).all λo=>match o.dst with | some d=>decide (d<k) | none=>true
def EG(g:Nat->Value):List Oper->Nat->Act->Act
 |[],_,a=>a
 |o::r,i,a=>EG g r (i+1) (a.put o.dst (g i))
section
variable {P:Program} {L:List Oper} {sh:List Shape} {Rs:List Fact} {a:Act} {w0:World}
theorem Da(h:Dt L sh=true):sh.length<=L.length:=by
 simp only[Dt,Bool.and_eq_true,decide_eq_true_eq]at h;exact h.1.1
theorem Cq(h:Dt L sh=true){i:Nat}(o:L[i]? = some va) :
  (∀e∈Bu va,e<i)/\(∀x,sh[i]? = some x->Et L sh i va x=true)/\(sh[i]? = none->A1a L sh i va=true):=by
 simp only[Dt,Bool.and_eq_true]at h
 have B:=List.all_eq_true.1 h.1.2 (va,i) (by
  rw[List.mem_zipIdx_iff_getElem?];exact o)
 simp only[Bool.and_eq_true,List.all_eq_true,decide_eq_true_eq]at B;refine⟨B.1,λx E=>?_,λE=>?_⟩
 .have:=B.2;exact ZhT
 .have:=B.2;exact ZhT
theorem Fo(h:Dt L sh=true){i j:Nat}{o l:Oper}(M:i<sh.length)(e:j<sh.length)(A:L[i]? = some o)(C:L[j]? = some l)(Z:o.dst=some T)(E:l.dst=some T):i=j:=by
 simp only[Dt,Bool.and_eq_true]at h;have B:=List.all_eq_true.1 (List.all_eq_true.1 h.2 i (List.mem_range.2 M)) j (List.mem_range.2 e);rw[A,C]at B;simp[Z,E]at B;exact B
theorem Kk{e:Edge}(X:e∈va.after)(F:Region.binds .any e=true):e.on∈Bu va:=by
 unfold Bu;exact List.mem_map.2 ⟨e,List.mem_filter.2 ⟨by simpa using X,F⟩,rfl⟩
theorem Iy(h:n∈Bu va):∃e∈va.after,Region.binds .any e=true/\e.on=n:=by
 unfold Bu at h;obtain⟨e,X,rfl⟩:=List.mem_map.1 h;obtain⟨A,B⟩:=List.mem_filter.1 X;exact⟨e,by simpa using A,B,rfl⟩
structure HInv(L:List Oper)(sh:List Shape)(Rs:List Fact)(a:Act)(w0:World)(listed:Array Bool)(g:Nat->Value)(a':Act)(w':World):Prop where
 size:listed.size=L.length
 closed:∀j o,L[j]? = some o->listed.getD j false=true->∀e∈Bu o,listed.getD e false=true
 tail:∀t,sh.length<=t->listed.getD t false=false
 asz:a'.tmps.size=a.tmps.size
 adef:a'.defers=a.defers
 a1:∀j o d,j<sh.length->L[j]? = some o->listed.getD j false=true->o.dst=some d->a'.tmps[d]? = some (g j)
 a2:∀t,(∀j o,j<sh.length->L[j]? = some o->listed.getD j false=true->o.dst≠some t)->a'.tmps[t]? = a.tmps[t]?
 facts:∀j y F,sh[j]? = some y->Rs[j]? = some F->listed.getD j false=true->F (y.deps.map g) w'
 ext:Ext w0 w'
variable{uo:Shape}
theorem DZ(h:sh[n]? = some uo):n<sh.length:=(List.getElem?_eq_some_iff.1 h).1
theorem DE(H:Dt L sh=true)(I:∀j o,L[j]? = some o->vI.getD j false=true->∀e∈Bu o,vI.getD e false=true) :
  ∀(i:Nat) (x:Shape) (o:Oper),sh[i]? = some x->L[i]? = some o->(∀e∈Bu o,vI.getD e false=true)->∀j∈x.bef,vI.getD j false=true:=by
 intro i
 induction i using Nat.strongRecOn with
 |_ i q=>
  intro x o E F V j C;obtain⟨Q,l,_⟩:=Cq H F;have A:=l x E;simp only[Et,Bool.and_eq_true]at A;have B:=List.all_eq_true.1 A.1.1.1.1.1 j C;obtain⟨e,X,J⟩:=List.any_eq_true.1 B;have f:=V e X;simp only[Bool.or_eq_true,beq_iff_eq]at J;rcases J with rfl | J
  .exact f
  .have K:=Q e X
   cases O:sh[e]? with
   |none=>simp[CT,O]at J
   |some y=>
    have z:e<L.length:=Nat.lt_of_lt_of_le (DZ O) (Da H);have G:L[e]? = some L[e]:=List.getElem?_eq_getElem z;refine q e K y _ O G (I e _ G f) j ?_;simpa[CT,O]using J
noncomputable def Oa (a:Act) (g:Nat->Value) (env:List (Nat×Nat)):Operand->Value
 |.tmp t=>match env.find? (λp=>p.1==t)with
  |some p=>g p.2
  |none=>a.tmps.getD t undef
 |.const v=>v
 |.global b=>.pointer (some ⟨b,0,none⟩)
 |.func f=>.func (.func f) #[] #[]
theorem Gu(H:Dt L sh=true){i:Nat}(E:sh[i]? = some uo)(o:L[i]? = some va){p:Nat×Nat}(G:p∈uo.env) :
  p.2∈uo.bef/\p.2<sh.length/\∃l,L[p.2]? = some l/\l.dst=some p.1:=by
 have A:=(Cq H o).2.1 uo E;simp only[Et,Bool.and_eq_true]at A;have B:=List.all_eq_true.1 A.1.1.1.2 p G;simp only[Bool.and_eq_true,decide_eq_true_eq]at B;obtain⟨⟨C,V⟩,m⟩:=B;refine⟨by simpa using C,V,?_⟩;split at m
 .rename_i l F;exact⟨l,F,by simpa using m⟩
 .cases m
theorem Qb{A:Operand->Value}{g:Nat->Value}:∀{env:List (Nat×Nat)},(∀p∈env,A (.tmp p.1)=g p.2)->Sp A g env
 |[],_=>trivial
 |(t,j)::r,h=>⟨h (t,j) ZbV,Qb λp G=>h p (by simp[G])⟩
theorem step_inv(H:Dt L sh=true)(Z:Gw L sh.length a.tmps.size=true)
  (xb:∀F∈Rs,∀Q S W,Ext S W->F Q S->F Q W)
 {g:Nat->Value} (R:HInv L sh Rs a w0 vI g vj w) {i:Nat} {F:Fact} (o:L[i]? = some va) (E:sh[i]? = some uo) (hF:Rs[i]? = some F)
  (n:vI.getD i false=false) (m:∀e∈Bu va,vI.getD e false=true) (X:Ext w p) (N:F (uo.deps.map (upd g i z)) p) :
  HInv L sh Rs a w0 (vI.setIfInBounds i true) (upd g i z) (vj.put va.dst z) p:=by
 have U:i<sh.length:=DZ E;have u:i<vI.size:=by rw[R.size];exact(List.getElem?_eq_some_iff.1 o).1
 have xa:∀j,(vI.setIfInBounds i true).getD j false=true->j≠i->vI.getD j false=true:=λj h I=>by
  exact ZhY
 have xg:∀j y l,sh[j]? = some y->L[j]? = some l->vI.getD j false=true->i∉y.bef:=λj y l O f K M=>by
  have:=DE H R.closed j y l O f (R.closed j l f K) i M;rw[n]at this;cases this
 refine⟨by simp[R.size],λj l f K e x=>?_,λt J=>?_,?_,?_,λj l d I f K T=>?_,λt J=>?_,λj y G O q K=>?_,R.ext.trans X⟩
 .by_cases s:j=i
  .subst s
   have:l=va:=Option.some.inj (f.symm.trans o);subst this;exact getD_set_true (m e x)
  .exact getD_set_true (R.closed j l f (xa j K s) e x)
 .rw [getD_set_ne false ZbK];exact R.tail t J
 .unfold Act.put;split<;>simp[R.asz]
 .unfold Act.put;split<;>simp[R.adef]
 .by_cases s:j=i
  .subst s
   have:l=va:=Option.some.inj (f.symm.trans o);subst this
   have xd:d<vj.tmps.size:=by
    rw[R.asz];have B:=List.all_eq_true.1 Z l (List.mem_of_getElem? (i:=j) (by rw[List.getElem?_take];simp[U,f]));simp only[T,decide_eq_true_eq]at B;exact B
   simp[Act.put,T,upd,xd]
  .have xc:=xa j K s
   have V:va.dst≠some d:=λe=>s (Fo H I U f o T e);rw[show upd g i z j=g j by simp[upd,s],<-R.a1 j l d I f xc T];unfold Act.put;split
   .rename_i b Y
    have:b≠d:=λe=>V (by rw[Y,e]);simp[Array.getElem?_setIfInBounds_ne this]
   .rfl
 .have B:va.dst≠some t:=by
   refine J i va U o ?_;simp[u]
  rw[<-R.a2 t λj l I f K=>J j l I f (getD_set_true K)];unfold Act.put;split
  .rename_i b Y
   have:b≠t:=λe=>B (by rw[Y,e]);simp[Array.getElem?_setIfInBounds_ne this]
  .rfl
 .by_cases s:j=i
  .subst s
   have c:y=uo:=Option.some.inj (O.symm.trans E);have v:G=F:=Option.some.inj (q.symm.trans hF);subst c;subst v;exact N
  .have xc:=xa j K s
   have r:j<L.length:=Nat.lt_of_lt_of_le (DZ O) (Da H);have f:L[j]? = some L[j]:=List.getElem?_eq_getElem r;have xh:=xg j y _ O f xc
   have xe:y.deps.map (upd g i z)=y.deps.map g:=by
    refine List.map_congr_left λk C=>?_;have A:=(Cq H f).2.1 y O;simp only[Et,Bool.and_eq_true]at A;have B:=List.all_eq_true.1 A.1.1.1.1.2 k C;simp only[Bool.or_eq_true,beq_iff_eq]at B
    have xf:k≠i:=by
     rintro rfl;rcases B with B | B
     .exact s B.symm
     .exact xh ZdR
    simp[upd,xf]
   rw[xe];exact xb G (List.mem_of_getElem? q) _ _ _ X (R.facts j y G O q xc)
theorem eval_operands(H:Dt L sh=true){g:Nat->Value}(J:HInv L sh Rs a w0 vI g vj w)(o:L[n]? = some va)(E:sh[n]? = some uo)
  (R:vI.getD n false=false) (V:∀e∈Bu va,vI.getD e false=true):∀y∈va.op.operands,vj.eval y=Oa a g uo.env y:=by
 intro y O
 cases y with
 |tmp t=>
  show vj.tmps.getD t undef=_
  cases S:uo.env.find? (λp=>p.1==t)with
  |some p=>
   have G:p∈uo.env:=List.mem_of_find?_eq_some S;have Y:p.1=t:=by simpa using List.find?_some S
   obtain⟨A,B,l,I,M⟩:=Gu H E o G;have K:=DE H J.closed n uo va E o V p.2 A;have:=J.a1 p.2 l p.1 B I K M;simp only[Oa,S];rw[Y]at this;simp[this]
  |none=>
   simp only[Oa,S];have A:=(Cq H o).2.1 uo E;simp only[Et,Bool.and_eq_true]at A;have B:=List.all_eq_true.1 A.1.1.2 (.tmp t) ZeG;simp only[Bool.or_eq_true]at B;rcases B with B | B
   .exfalso
    have:t∈uo.env.map (·.1):=Zih
    obtain⟨p,G,Y⟩:=List.mem_map.1 this;have:=List.find?_eq_none.1 S p G;simp[Y]at this
   .have:vj.tmps[t]? = a.tmps[t]?:=by
     refine J.a2 t λj Q F N K W=>?_;have C:=List.all_eq_true.1 B j (List.mem_range.2 F);rw[N]at C;simp[W]at C;rcases C with C | C
     .subst C;rw[R]at K;cases K
     .cases X:sh[j]? with
      |none=>rw[List.getElem?_eq_none_iff]at X;omega
      |some z=>
       have:=DE H J.closed j z Q X N (J.closed j Q N K) n (by simpa[CT,X]using C);rw[R]at this;cases this
    rw[Array.getD_eq_getD_getElem?,Array.getD_eq_getD_getElem?,this]
 |const v=>rfl
 |global b=>rfl
 |func f=>rfl
theorem wanted_of(H:Dt L sh=true){g:Nat->Value}(J:HInv L sh Rs a w0 vI g vj w)(o:L[n]? = some va)(E:sh[n]? = some uo)
  (G:∀e∈Bu va,vI.getD e false=true):Region.wanted va (yielded L.toArray vj.tmps)=Ew va g:=Zac
theorem opStep_wp{R:Value->World->Prop}{K:Act->World->Prop}(N:BI va.op=true)(E:∀y∈va.op.operands,vj.eval y=uu y)
  (h:OpStep P va uu w R) (m:∀v H,R v H->K (vj.put va.dst v) H):va.wp P vj w K vM:=by
 unfold Oper.wp
 have C:∀A b,va.op≠.select A b:=by
  intro A b e;rw[e]at N;cases N
 rw[execOp_congr va C E];unfold OpStep at h;split at h
 .rename_i v H B;rw[B];exact m _ _ h
 .rename_i H B;rw[B];exact m _ _ h
 .rename_i f args H B
  rw[B];exact Calls.mono h λe u ⟨v,X,T⟩=>by subst X;exact m _ _ T
 .exact h.elim
theorem JG(h:n<vI.size):vI.getD n true=vI.getD n false:=by simp[h]
theorem LD(H:Dt L sh=true)(k:vI.size=L.length){i:Nat}(M:i∈Region.ready .any L.toArray vI) :
  vI.getD i false=false/\∃o,L[i]? = some o/\∀e∈Bu o,vI.getD e false=true:=by
 obtain⟨A,o,B,E⟩:=mem_ready.1 M;have C:L[i]? = some o:=Zih
 have I:i<vI.size:=by rw[k];exact(List.getElem?_eq_some_iff.1 C).1
 refine⟨by rw[<-JG I];exact A,o,C,λe X=>?_⟩;obtain⟨G,K,F,rfl⟩:=Iy X;exact E G K F
theorem JH(H:Dt L sh=true)(B:vI.size=L.length):∀(i:Nat),i<L.length->vI.getD i false=false->∃k,k<=i/\k∈Region.ready .any L.toArray vI:=by
 intro i
 induction i using Nat.strongRecOn with
 |_ i q=>
  intro M p;by_cases h:∃e,e<i/\vI.getD e false=false
  .obtain ⟨e,X,A⟩:=h
   obtain⟨k,C,b⟩:=q e X ZbK A;exact⟨k,by omega,b⟩
  .refine ⟨i, Nat.le_refl _, mem_ready.2 ⟨by rw [JG ZbK]; exact p, L[i], by simp [M], λe X F=>?_⟩⟩
   have Q:=(Cq H (List.getElem?_eq_getElem M)).1 e.on (Kk X F)
   cases I:vI.getD e.on false with
   |true=>rfl
   |false=>exact absurd ⟨e.on,Q,I⟩ h
def Ij(E:Array Bool):Nat:=(E.toList.filter (!·)).length
theorem Lf{i:Nat}(M:i<vI.size)(h:vI.getD i false=false):Ij (vI.setIfInBounds i true)+1=Ij vI:=by
 obtain⟨l⟩:=vI;simp only[Ij,List.setIfInBounds_toArray,List.size_toArray]at *
 have A:l[i]? = some false:=by
  simp[M]at h;simp[List.getElem?_eq_getElem M,h]
 clear h
 induction l generalizing i with
 |nil=>simp at M
 |cons b l q=>
  cases i with
  |zero=>
   simp at A;subst A;simp
  |succ i=>
   simp only[List.set_cons_succ];have:=q (i:=i) (by simpa using M) Zdg;cases b<;>simp_all
theorem PV(M:n<vI.size)(h:vI.getD n false=false):0<Ij vI:=by
 have:=Lf M h;omega
theorem Jn(H:Dt L sh=true)(k:vI.size=L.length)(I:∀j va,L[j]? = some va->vI.getD j false=true->∀e∈Bu va,vI.getD e false=true)
 (J:sh.length<=n) (o:L[n]? = some va) (V:∀e∈Bu va,vI.getD e false=true):∀j,j<n->vI.getD j false=true:=by
 induction n using Nat.strongRecOn generalizing va with
 |_ n q=>
  intro j C;obtain⟨Q,_,l⟩:=Cq H o;have A:=l (List.getElem?_eq_none_iff.2 J);have B:=List.all_eq_true.1 A j (List.mem_range.2 C);obtain⟨e,X,E⟩:=List.any_eq_true.1 B;simp only[Bool.or_eq_true,beq_iff_eq]at E;rcases E with rfl | E
  .exact V e X
  .have G:=Q e X
   have z:e<L.length:=by have:=(List.getElem?_eq_some_iff.1 o).1;omega
   have F:L[e]? = some L[e]:=List.getElem?_eq_getElem z;split at E
   .rename_i T
    have O:sh[e]? = some sh[e]:=List.getElem?_eq_getElem T;exact DE H I e _ _ O F (I e _ F (V e X)) j (by simpa[CT,O]using E)
   .rename_i T
    exact q e G ZbK F (I e _ F (V e X)) j Zei
theorem LA(H:Dt L sh=true):∀(f m:Nat) (I:Array Bool) (J:Act) (N:World),sh.length<=m->f+m=L.length->I.size=L.length ->
  (∀j,j<m->I.getD j false=true)->(∀j,m<=j->I.getD j false=false)->wpList P L.toArray vM (L.drop m) J N->wpAny P .any L.toArray vM f I J N:=by
 intro f
 induction f with
 |zero=>
  intro m I J N t p O A B h;have r:L.length<=m:=by omega
  rw[List.drop_eq_nil_of_le r]at h;refine⟨?_,h⟩
  cases b:Region.ready .any L.toArray I with
  |nil=>rfl
  |cons x Z=>
   obtain⟨E,o,G,_⟩:=LD H O (i:=x) (by rw[b];simp);have:=A x (by have:=(List.getElem?_eq_some_iff.1 G).1;omega);rw[E]at this;cases this
 |succ f q=>
  intro m I J N t p O A B h;have r:m<L.length:=by omega
  refine⟨λg=>?_,λi M=>?_⟩
  .obtain ⟨k,_,C⟩:=JH H O m r (B m (Nat.le_refl _))
   rw[g]at C;cases C
  .obtain ⟨d,o,G,Y⟩:=LD H O M
   have l:=(List.getElem?_eq_some_iff.1 G).1
   have v:m<=i:=by
    rcases Nat.lt_or_ge i m with Q | hge
    .have:=A i Q;rw[d]at this;cases this
    .exact hge
   have c:∀j V,L[j]? = some V->I.getD j false=true->∀e∈Bu V,I.getD e false=true:=λj V S K e X=>by
    have u:j<m:=by
     rcases Nat.lt_or_ge j m with Q | hge
     .exact Q
     .rw [B j hge]at K;cases K
    exact A e (Nat.lt_trans ((Cq H S).1 e X) u)
   have y:i=m:=by
    rcases Nat.lt_or_ge m i with Q | hge
    .have:=Jn H O c ZbK G Y m Q
     rw[B m (Nat.le_refl _)]at this;cases this
    .omega
   subst y;rw[List.drop_eq_getElem_cons r]at h;have heq:L[i]=o:=by rw[List.getElem?_eq_getElem r]at G;exact Option.some.inj G
   rw[heq]at h
   have R:∀a w,wpList P L.toArray vM (L.drop (i+1)) a w->wpAny P .any L.toArray vM f (I.setIfInBounds i true) a w:=λa w W=>
    q (i + 1) _ a w ZbK ZbK ZeG (fun j F => by
     by_cases s:j=i
     .subst s;simp[O,r]
     .exact getD_set_true (A j ZbK)) (λj F=>by rw[getD_set_ne false ZbK];exact B j ZbK) W
   unfold wpOp;have n:L.toArray[i]? = some o:=by simpa using G
   rw[n];simp only[wpList]at h ⊢;split
   .rename_i W;rw[if_pos W]at h;exact h.imp (Oper.wp_mono R) id
   .rename_i W;rw[if_neg W]at h;exact R _ _ h
theorem FS{g:Nat->Value}:∀(l:List Oper) (i:Nat) (b:Act),(∀(j k:Nat) (o K:Oper) (d:Nat),l[j]? = some o->l[k]? = some K->o.dst=some d->K.dst=some d->j=k)->(∀o∈l,∀d,o.dst=some d->d<b.tmps.size) ->
  (EG g l i b).tmps.size=b.tmps.size/\(EG g l i b).defers=b.defers /\
  (∀(j:Nat) (o:Oper) (d:Nat),l[j]? = some o->o.dst=some d->(EG g l i b).tmps[d]? = some (g (i+j))) /\
  (∀t:Nat,(∀(j:Nat) (o:Oper),l[j]? = some o->o.dst≠some t)->(EG g l i b).tmps[t]? = b.tmps[t]?)
 |[],i,b,_,_=>⟨rfl,rfl,λj o d h=>by simp at h,λt _=>rfl⟩
 |o::l,i,b,Z,F=>by
  have f:(b.put o.dst (g i)).tmps.size=b.tmps.size:=by unfold Act.put;split<;>simp
  obtain⟨A,B,E,V⟩:=FS (g:=g) l (i+1) (b.put o.dst (g i)) (λj k O R d G C c v=>by
   have:=Z (j+1) (k+1) O R d (by simpa using G) ZcF c v;omega) (λK M d N=>by rw[f];exact F K (by simp[M]) d N)
  refine⟨A.trans f,B.trans (by unfold Act.put;split<;>rfl),λj K d G Q=>?_,λt J=>?_⟩
  .cases j with
   |zero=>
    simp at G;subst G;show(EG g l (i+1) (b.put o.dst (g i))).tmps[d]? = _
    rw[V d λk R C e=>by
     have:=Z 0 (k+1) o R d rfl ZcF Q e;omega]
    have:=F o ZbV d Q;simp[Act.put,Q,this]
   |succ j=>
    have:=E j K d (by simpa using G) Q;rw[show i+(j+1)=i+1+j by omega];exact this
  .show (EG g l (i+1) (b.put o.dst (g i))).tmps[t]? = _
   rw[V t λk R C=>J (k+1) R ZcF];have I:=J 0 o rfl;unfold Act.put;split
   .rename_i S N
    have:S≠t:=λe=>I (by rw[N,e]);exact Zii
   .rfl
theorem LT{x y:Act}(h:x.tmps=y.tmps)(A:x.defers=y.defers):x=y:=by
 cases x;cases y;simp_all
theorem head_run(H:Dt L sh=true)(Z:Gw L sh.length a.tmps.size=true)
  (xA:∀F∈Rs,∀T w1 w2,Ext w1 w2->F T w1->F T w2) (xj:StepsAt P sh Rs a w0 0 L sh Rs)
  (xr:∀g N,Ext w0 N->(∀(j:Nat) (y:Shape) (F:Fact),sh[j]? = some y->Rs[j]? = some F->F (y.deps.map g) N)->wpList P L.toArray vM (L.drop sh.length) (EG g (L.take sh.length) 0 a) N) :
  ∀(f:Nat) (z:Array Bool) (g:Nat->Value) (a':Act) (N:World),Ij z=f->HInv L sh Rs a w0 z g a' N->wpAny P .any L.toArray vM f z a' N:=by
 obtain⟨xb,xu⟩:=xj.at;intro f
 induction f with
 |zero=>
  intro z g a' N m xa
  have xh:∀j,j<L.length->z.getD j false=true:=λj R=>Zad
  refine LA H 0 L.length z a' N (Da H) ZbK xa.size xh (λj R=>by simp[xa.size,R]) ?_
  exact Zae
 |succ f ih=>
  intro z g a' N m xa;by_cases xl:∀j,j<sh.length->z.getD j false=true
  .have xK:f+1+sh.length=L.length:=Zaf
   refine LA H (f+1) sh.length z a' N (Nat.le_refl _) xK xa.size xl xa.tail ?_;have:=xr g N xa.ext λj y F O hF=>xa.facts j y F O hF (xl j (DZ O))
   have xG:EG g (L.take sh.length) 0 a=a':=Zag
   rw[xG]at this;exact this
  .have xH:∃j,j<sh.length/\z.getD j false=false:=Classical.byContradiction λxq=>xl λj R=>Zah
   obtain⟨j0,xL,xt⟩:=xH;refine⟨λS=>?_,λi M=>?_⟩
   .obtain ⟨k,_,C⟩:=JH H xa.size j0 (Nat.lt_of_lt_of_le xL (Da H)) xt
    rw[S]at C;cases C
   .obtain ⟨xf,o,r,xe⟩:=LD H xa.size M
    have xp:i<sh.length:=Zai
    have E:sh[i]? = some sh[i]:=List.getElem?_eq_getElem xp;obtain⟨F,hF,u⟩:=xu i o _ r E;rw[Nat.zero_add]at u;have xn:i<z.size:=ZhV
    have xq:=(Cq H r).2.1 _ E;simp only[Et,Bool.and_eq_true]at xq
    obtain⟨xs,xv⟩:=u g N (Oa a g sh[i].env) xa.ext (λx xw j R y G O hG=>by
      have:x=sh[i]:=Option.some.inj (xw.symm.trans E);subst this;exact xa.facts j y G O hG (DE H xa.closed i _ o E r xe j R))
     (Qb λp J=>by
      obtain⟨A,B,Y,xc,xd⟩:=Gu H E r J
      cases xi:sh[i].env.find? (λq=>q.1==p.1)with
      |none=>have:=List.find?_eq_none.1 xi p J;simp at this
      |some q=>
       have w:=List.mem_of_find?_eq_some xi;have xM:q.1=p.1:=by simpa using List.find?_some xi
       obtain⟨_,V,o2,xx,xo⟩:=Gu H E r w;rw[xM]at xo;have:=Fo H V B xx xc xo xd;simp only[Oa,xi,this])
     (λt K=>by
      have:sh[i].env.find? (λq=>q.1==t)=none:=List.find?_eq_none.2 λp J=>by simpa using K p J
      simp only[Oa,this])
     (λ_=>rfl) (λ_=>rfl)
    have xN:=wanted_of H xa r E xe
    have xI:∀v w2 b,(a'.put o.dst v)=b->Ext N w2->F (sh[i].deps.map (upd g i v)) w2->wpAny P .any L.toArray vM f (z.setIfInBounds i true) b w2:=λv w2 b I X xy=>by
     subst I;refine ih _ (upd g i v) _ _ ?_ (step_inv H Z xA xa r E hF xf xe X xy);have:=Lf xn xf;omega
    unfold wpOp;have xx:L.toArray[i]? = some o:=by simpa using r
    rw[xx];show if Region.wanted o (yielded L.toArray a'.tmps)=true then _ else _
    rw[xN];split
    .rename_i hw
     exact Zij
    .rename_i hw
     exact xI undef N _ rfl (Ext.refl _) (xv (by simpa using hw))
theorem wp_region_ext{L:List Oper}{a:Act}(A:P.follows .mixedOrders=true)(sh:List Shape)(Rs:List Fact)(H:Dt L sh=true)(Z:Gw L sh.length a.tmps.size=true)
  (O:∀F∈Rs,∀G e C,Ext e C->F G e->F G C) (V:StepsAt P sh Rs a w.drew 0 L sh Rs)
  (R:∀g N,Ext w.drew N->(∀(j:Nat) (y:Shape) (F:Fact),sh[j]? = some y->Rs[j]? = some F->F (y.deps.map g) N)->wpList P L.toArray vM (L.drop sh.length) (EG g (L.take sh.length) 0 a) N) :
  (Code.region n L.toArray true).wp P vM a w:=by
 refine wp_region_any A ?_;have E:Ij (Array.replicate L.toArray.size false)=L.toArray.size:=by simp[Ij,List.filter_replicate]
 refine head_run H Z O V R _ _ (λ_=>undef) a _ E ?_
 have B:∀j,(Array.replicate L.toArray.size false).getD j false=false:=λj=>Zaj
 exact⟨by simp,(λj o _ h=>by rw[B]at h;cases h),λt _=>B t,rfl,rfl,(λj o d _ _ h=>by rw[B]at h;cases h),λt _=>rfl,(λj y F _ _ h=>by rw[B]at h;cases h),Ext.refl _⟩
end
abbrev VFact:=Value->World->Prop
def OpsKnown(s:List VFact)(h:Operand->Value)(w:World):List (Nat×Nat)->Prop
 |[]=>True
 |(t,j)::r=>(∀F,s[j]? = some F->F (h (.tmp t)) w)/\OpsKnown s h w r
def UStep(P:Program)(s:List VFact)(a:Act)(B:World)(o:Oper)(env:List (Nat×Nat))(F:VFact):Prop:=
 ∀(w:World) (h:Operand->Value),Ext B w->OpsKnown s h w env ->
  (∀t,(∀p∈env,p.1≠t)->h (.tmp t)=a.tmps.getD t undef)->(∀v,h (.const v)=v)->(∀f,h (.func f)=.func (.func f) #[] #[]) ->
  match o.guard with
  |none=>OpStep P o h w λv N=>Ext w N/\F v N
  |some (j,b)=>∀q,(∀G,s[j]? = some G->G q w)->(q=.bool b->OpStep P o h w λv N=>Ext w N/\F v N)/\(q≠.bool b->F undef w)
def USteps(P:Program)(s:List VFact)(a:Act)(B:World):List Oper->List (List (Nat×Nat))->List VFact->Prop
 |o::L,x::S,F::T=>UStep P s a B o x F/\USteps P s a B L S T
 |_,[],[]=>True
 |_,_,_=>False
theorem USteps.cons{s:List VFact}{a:Act}{L:List Oper}{x:List (Nat×Nat)}{S:List (List (Nat×Nat))}{F:VFact}{T:List VFact}(h:UStep P s a w va x F)(f:USteps P s a w L S T) :
  USteps P s a w (va::L) (x::S) (F::T):=⟨h,f⟩
theorem USteps.nil{s:List VFact}{a:Act}{L:List Oper}:USteps P s a w L [] []:=by cases L<;>trivial
def Fc:Nat->List (List (Nat×Nat))->List (List Nat)->List Shape
 |i,e::n,b::A=>⟨e,b,[i]⟩::Fc (i+1) n A
 |_,_,_=>[]
theorem Jp:∀{n:List (List (Nat×Nat))} {C:List (List Nat)} {i k:Nat} {x:Shape},(Fc i n C)[k]? = some x->x.deps=[i+k]/\n[k]? = some x.env
 |[],_,i,k,x,h=>by simp[Fc]at h
 |_::_,[],i,k,x,h=>by simp[Fc]at h
 |e::n,b::C,i,0,x,h=>by
  simp only[Fc,List.getElem?_cons_zero,Option.some.injEq]at h;subst h;exact⟨rfl,rfl⟩
 |e::n,b::C,i,k+1,x,h=>by
  simp only[Fc,List.getElem?_cons_succ]at h;obtain⟨A,B⟩:=Jp h;exact⟨by rw[A];congr 1;omega,by simpa using B⟩
def unF(F:VFact):Fact:=λG w=>match G with | [v]=>F v w | _=>False
theorem usteps_steps{P:Program}{a:Act}{w0:World}{Fs:List VFact}{sh:List Shape}{L0:List Oper}(H:Dt L0 sh=true)(xq:∀(k:Nat) (x:Shape),sh[k]? = some x->x.deps=[k]) :
  ∀{L:List Oper} {X:List (List (Nat×Nat))} {bs:List (List Nat)} {T:List VFact} {i:Nat},(∀k,L[k]? = L0[i+k]?)->(∀k,(Fc i X bs)[k]? = sh[i+k]?)->X.length=bs.length->USteps P Fs a w0 L X T ->
   StepsAt P sh (Fs.map unF) a w0 i L (Fc i X bs) (T.map unF)
 |L,[],[],[],i,_,_,_,_=>by cases L<;>exact trivial
 |L,[],[],_::_,i,_,_,_,h=>by cases L<;>exact h.elim
 |L,[],_::_,T,i,_,_,M,h=>by simp at M
 |L,_::_,[],T,i,_,_,M,h=>by simp at M
 |[],_::_,_::_,T,i,_,_,_,h=>by cases T<;>exact h.elim
 |_::_,_::_,_::_,[],i,_,_,_,h=>h.elim
 |o::L,e::X,b::bs,F::T,i,U,s,M,h=>Zak
theorem wp_region_u{L:List Oper}(t:P.follows .mixedOrders=true)(A:List (List (Nat×Nat)))(M:List (List Nat))(s:List VFact)
  (I:(A.length==M.length&&A.length==s.length)=true) (H:Dt L (Fc 0 A M)=true) (Z:Gw L A.length vj.tmps.size=true)
  (W:∀F∈s,∀v C J,Ext C J->F v C->F v J) (V:USteps P s vj w.drew L A s)
  (R:∀(g:Nat->Value) (N:World),Ext w.drew N->(∀(j:Nat) (F:VFact),s[j]? = some F->F (g j) N)->wpList P L.toArray vM (L.drop A.length) (EG g (L.take A.length) 0 vj) N) :
  (Code.region n L.toArray true).wp P vM vj w:=by
 simp only[Bool.and_eq_true,beq_iff_eq]at I
 have Y:∀(A:List (List (Nat×Nat))) (M:List (List Nat)) (i:Nat),A.length=M.length->(Fc i A M).length=A.length:=by
  intro A
  induction A with
  |nil=>intro M i _;cases M<;>rfl
  |cons e A q=>
   intro M i h
   cases M with
   |nil=>simp at h
   |cons b M=>simp[Fc,q M (i+1) ZcY]
 have K:=Y A M 0 I.1;refine wp_region_ext t (Fc 0 A M) (s.map unF) H Zeh ?_ ?_ ?_
 .intro F hF B C J X h
  obtain⟨G,Q,rfl⟩:=List.mem_map.1 hF;unfold unF at *;split at h
  .rename_i v;exact W G Q v C J X h
  .exact h.elim
 .exact usteps_steps H (λk x E=>by have:=(Jp E).1;rwa [Nat.zero_add]at this) (λk=>by rw[Nat.zero_add]) (λk=>by rw[Nat.zero_add]) I.1 V
 .intro g N S p
  rw[K];refine R g N S λj F hF=>?_
  have m:j<(Fc 0 A M).length:=by
   rw[K];have:=(List.getElem?_eq_some_iff.1 hF).1;omega
  have O:(Fc 0 A M)[j]? = some (Fc 0 A M)[j]:=List.getElem?_eq_getElem m;have:=p j _ (unF F) O (by rw[List.getElem?_map,hF];rfl);rw[(Jp O).1]at this;simpa[unF]using this
def Stab(F:VFact):Prop:=∀v e A,Ext e A->F v e->F v A
def StabAll:List VFact->Prop
 |[]=>True
 |F::r=>Stab F/\StabAll r
theorem StabAll.cons{F:VFact}{r:List VFact}(h:Stab F)(f:StabAll r):StabAll (F::r):=⟨h,f⟩
theorem StabAll.nil:StabAll []:=trivial
theorem StabAll.mem:∀{s:List VFact},StabAll s->∀F∈s,Stab F
 |[],_,F,h=>by cases h
 |G::r,h,F,hF=>Zal
theorem Stab.eq(u:Value):Stab (λv _=>v=u):=λ_ _ _ _ h=>h
variable{uG:VFact}
theorem Ar{v:Value}(h:(execOp uu va).run P w=.ok (.value v) w)(hF:uG v w):OpStep P va uu w λv N=>Ext w N/\uG v N:=by
 unfold OpStep;rw[h];exact⟨Ext.refl _,hF⟩
theorem Ux{v:Value}(h:(execOp uu va).run P w=.ok (.value v) p)(S:Ext w p)(hF:uG v p):OpStep P va uu w λv p=>Ext w p/\uG v p:=by
 unfold OpStep;rw[h];exact⟨S,hF⟩
theorem Cl{f:FuncId}{R:Ending->World->Prop}(h:(execOp uu va).run P w=.ok (.enter f vy) w)(I:Calls P f vy w R)
  (T:∀e N,R e N->∃v,e=.returned v/\Ext w N/\uG v N):OpStep P va uu w λv N=>Ext w N/\uG v N:=by
 unfold OpStep;rw[h];exact I.mono T
theorem wp_region_v{L:List Oper}(t:P.follows .mixedOrders=true)(A:List (List (Nat×Nat)))(C:List (List Nat))(s:List VFact)
  (B:(A.length==C.length&&A.length==s.length)=true) (H:Dt L (Fc 0 A C)=true) (Z:Gw L A.length vj.tmps.size=true) (stab:StabAll s) (steps:USteps P s vj w.drew L A s)
  (fin:∀(g:Nat->Value) (N:World),Ext w.drew N->(∀(j:Nat) (F:VFact),s[j]? = some F->F (g j) N)->wpList P L.toArray vM (L.drop A.length) (EG g (L.take A.length) 0 vj) N) :
  (Code.region n L.toArray true).wp P vM vj w:=
 wp_region_u t A C s B H Z (λF hF=>stab.mem F hF) steps fin
def BB:Nat:=4294967296
theorem Cv:0<BB:=by decide
theorem Br:BB=4294967296:=rfl
theorem RH:1<BB:=by decide
def val:List Nat->Nat
 |[]=>0
 |x::l=>x+BB*val l
def Aq(n:Nat):List Nat:=if h:n=0 then[]else(n%BB)::Aq (n/BB)
termination_by n
decreasing_by exact Nat.div_lt_self (Nat.pos_of_ne_zero h) ZbN
def BD(l:List Nat):Prop:=∀x∈l,x<BB
theorem BA:Aq 0=[]:=by rw[Aq];simp
theorem Eo(h:n≠0):Aq n=(n%BB)::Aq (n/BB):=by rw[Aq];simp[h]
theorem Aw(n:Nat):val (Aq n)=n:=by
 induction n using Nat.strongRecOn with
 |_ n q=>
  by_cases h:n=0
  .subst h;rw[BA];rfl
  .rw [Eo h]
   show n%BB+BB*val (Aq (n/BB))=n;rw[q (n/BB) (Nat.div_lt_self (Nat.pos_of_ne_zero h) ZbN)];exact Nat.mod_add_div n BB
theorem BR(n:Nat):BD (Aq n):=by
 induction n using Nat.strongRecOn with
 |_ n q=>
  by_cases h:n=0
  .subst h;rw[BA];intro x E;cases E
  .rw [Eo h]
   intro x E;rcases List.mem_cons.1 E with rfl | E
   .exact Nat.mod_lt _ Cv
   .exact q (n/BB) (Nat.div_lt_self (Nat.pos_of_ne_zero h) ZbN) x E
theorem Hh(l m:List Nat):val (l++m)=val l+BB^l.length*val m:=by
 induction l with
 |nil=>simp[val]
 |cons x l q=>
  simp only[List.cons_append,val,q,List.length_cons,Nat.pow_succ];rw[Nat.mul_add,Nat.add_assoc,Nat.mul_comm (BB^l.length) BB,Nat.mul_assoc]
theorem Dw(h:BD l):val l<BB^l.length:=by
 induction l with
 |nil=>simp[val]
 |cons x l q=>
  have A:=h x ZbV;have B:=q λy O=>h y (by simp[O]);simp only[val,List.length_cons,Nat.pow_succ];have L:BB*(val l+1)<=BB*BB^l.length:=Nat.mul_le_mul_left _ B;rw[Nat.mul_add,Nat.mul_comm BB (BB^l.length)]at L;omega
def DB:List Nat->List Nat
 |[]=>[]
 |x::l=>match DB l with
  |[]=>if x=0 then[]else[x]
  |y::r=>x::y::r
theorem Zo(l:List Nat):val (DB l)=val l:=by
 induction l with
 |nil=>rfl
 |cons x l q=>
  simp only[DB];split
  .rename_i h
   rw[h]at q;have q:val l=0:=by rw[<-q];rfl
   split
   .subst x;simp[val,q]
   .simp [val,q]
  .rename_i y r h
   rw[h]at q;show x+BB*val (y::r)=x+BB*val l;rw[q]
theorem AU(h:BD l):DB l=Aq (val l):=by
 induction l with
 |nil=>simp[DB,val,BA]
 |cons x l B=>
  have E:=h x ZbV;have B:=B λy O=>h y (by simp[O]);have Z:(x+BB*val l)/BB=val l:=by rw[Nat.add_mul_div_left _ _ Cv,Nat.div_eq_of_lt E];omega
  have t:(x+BB*val l)%BB=x:=by rw[Nat.add_mul_mod_self_left,Nat.mod_eq_of_lt E]
  simp only[DB,val];split
  .rename_i g
   have q:val l=0:=by rw[<-Zo,g];rfl
   split
   .subst x;simp[q,BA]
   .rename_i z
    rw[Eo ZbK,Z,t,q,BA]
  .rename_i y r g
   have z:x+BB*val l≠0:=by
    intro e
    have q:val l=0:=by
     have:=Cv;rcases Nat.eq_zero_or_pos (val l)with A | A
     .exact A
     .have:=Nat.mul_pos this A;omega
    rw[q,BA,g]at B;cases B
   rw[Eo z,Z,t,<-B,g]
theorem NS(l:List Nat):DB (l++[0])=DB l:=by
 induction l with
 |nil=>simp[DB]
 |cons x l q=>simp only[List.cons_append,DB,q]
theorem Wp(h:n≠0):DB (l++[n])=l++[n]:=by
 induction l with
 |nil=>simp[DB,h]
 |cons y l q=>
  simp only[List.cons_append,DB,q];cases l<;>simp
theorem GK(l:List Nat):(DB l).length<=l.length:=by
 induction l with
 |nil=>simp[DB]
 |cons x l q=>
  simp only[DB];split
  .split<;>simp
  .rename_i y r h;rw[h]at q;simpa using q
theorem OP{k:Nat}(C:k<l.length)(g:l[k]=0):DB (l.take (k+1))=DB (l.take k):=by
 rw[List.take_succ_eq_append_getElem C,g,NS]
theorem KM{k:Nat}(C:k<l.length)(g:l[k]≠0):DB (l.take (k+1))=l.take (k+1):=by
 rw[List.take_succ_eq_append_getElem C,Wp g]
def Words(w:World)(v:Value)(l:List Nat):Prop:=
 ∃(A:Option Addr) (c:Nat),v=.slice A l.length c/\l.length<=c/\c<=9223372036854775807/\BD l /\
  (0<l.length->∃(b o:Nat) (a:Array Value) (K:Nat×Nat),A=some ⟨b,o,none⟩/\w.heap[b]? = some (.cells a 335 K)/\∀i,(M:i<l.length)->a[o+i]? = some (.int .u32 (l[i]:Nat)))
theorem Bm{o:Obj}(h:w.heap[n]? = some o):n<w.heap.size:=(Array.getElem?_eq_some_iff.1 h).1
theorem Words.ext{v:Value}(h:Words w v l)(X:Ext w p):Words p v l:=by
 obtain⟨A,c,q,I,t,f,E⟩:=h;refine⟨A,c,q,I,t,f,λK=>?_⟩;obtain⟨b,o,a,B,C,F,M⟩:=E K;exact⟨b,o,a,B,C,(X.block (Bm F)).trans F,M⟩
theorem Words.small{v:Value}(h:Words w v l):BD l:=by
 obtain⟨_,_,_,_,_,f,_⟩:=h;exact f
theorem Words.nil(w:World)(A:Option Addr)(c:Nat)(I:c<=9223372036854775807):Words w (.slice A 0 c) []:=⟨A,c,rfl,Nat.zero_le _,I,(λx E=>by cases E),(λh=>by cases h)⟩
theorem CL{b o:Nat}{K:Nat×Nat}(h:w.heap[b]? = some (.cells vy t K)):w.cell? ⟨b,o,none⟩=vy[o]?:=by simp[World.cell?,h]
theorem Words.open_{v:Value}(h:Words w v l):∃(A:Option Addr) (c:Nat),v=.slice A l.length c/\l.length<=c/\c<=9223372036854775807 /\
  (0<l.length->∃(b o:Nat),A=some ⟨b,o,none⟩/\b<w.heap.size/\∀i,i<l.length->w.cell? ⟨b,o+i,none⟩=some (.int .u32 (l.getD i 0:Nat))):=by
 obtain⟨A,c,q,I,t,f,E⟩:=h;refine⟨A,c,q,I,t,λK=>?_⟩;obtain⟨b,o,a,B,C,F,M⟩:=E K;exact⟨b,o,C,Bm F,λi P=>by rw[CL F,M i P];simp[P]⟩
theorem Words.take{c:Nat}(h:Words w (.slice uv l.length c) l){k:Nat}(C:k<=l.length):Words w (.slice uv k c) (l.take k):=by
 obtain⟨J,B,q,I,t,f,E⟩:=h;injection q with A _ L
 subst A;subst L;have K:(l.take k).length=k:=by simp[C]
 refine⟨uv,c,by rw[K],by omega,t,λx E=>f x (List.mem_of_mem_take E),λG=>?_⟩;obtain⟨b,o,a,N,O,F,M⟩:=E ZbK;exact⟨b,o,a,N,O,F,λi n=>by rw[M i ZbK];simp⟩
def wv(l:List Nat):Array Value:=(l.map λx=>Value.int .u32 (x:Nat)).toArray
theorem A3c(l:List Nat):(wv l).size=l.length:=by simp[wv]
theorem A0X(h:n<l.length):(wv l)[n]? = some (.int .u32 (l[n]:Nat)):=by simp[wv,h]
theorem Dr(h:n<l.length):(wv l)[n]? = some (.int .u32 (l.getD n 0:Nat)):=by simp[wv,h]
theorem If(l:List Nat)(i x:Nat):(wv l).setIfInBounds i (.int .u32 (x:Nat))=wv (l.set i x):=by simp[wv,List.map_set]
def Blk(w:World)(g:Nat)(t:TypeId)(a:Array Value):Prop:=w.heap[g]? = some (.cells a t (0,0))
theorem Blk.lt{g:Nat}(h:Blk w g t vy):g<w.heap.size:=Bm h
theorem Blk.cell{g:Nat}(h:Blk w g t vy)(i:Nat):w.cell? ⟨g,i,none⟩=vy[i]?:=CL h
theorem Blk.frozen(h:Blk w n t vy)(i:Nat):w.frozen? ⟨n,i,none⟩=false:=by
 unfold Blk at h;simp[World.frozen?,h]
theorem Blk.new(w:World)(t:TypeId)(a:Array Value):Blk (w.alloc (.cells a t)) w.heap.size t a:=heap_alloc_new w _
theorem Eb{b:Nat}(t:TypeId)(a:Array Value)(h:b=w.heap.size):Blk (w.alloc (.cells a t)) b t a:=h▸Blk.new w t a
theorem Blk.drew{g:Nat}(h:Blk w g t vy):Blk w.drew g t vy:=h
theorem Blk.alloc{g:Nat}(h:Blk w g t vy)(o:Obj):Blk (w.alloc o) g t vy:=(Below.heap_alloc w o g h.lt).trans h
theorem Blk.set{g:Nat}(h:Blk w g t vy)(i:Nat)(u:Value):Blk (w.setCell ⟨g,i,none⟩ u) g t (vy.setIfInBounds i u):=by
 unfold Blk at h ⊢;simp[World.setCell,Array.getElem?_modify,h]
theorem Blk.far(h:Blk w n t vy){p:Addr}(G:n≠p.block)(u:Value):Blk (w.setCell p u) n t vy:=(Below.heap_setCell w p u n G).trans h
theorem Blk.ext{g:Nat}(h:Blk w g t vy)(X:Ext w p):Blk p g t vy:=(X.block h.lt).trans h
theorem Cn{c:Nat}(h:Blk w n 335 (wv l))(f:BD l)(I:l.length<=c)(t:c<=9223372036854775807):Words w (.slice (some ⟨n,0,none⟩) l.length c) l:=
 ⟨_,c,rfl,I,t,f,λ_=>⟨n,0,_,_,rfl,h,λi M=>by rw[Nat.zero_add];exact A0X M⟩⟩
def Ty(w:World)(b:Nat)(t:TypeId):Prop:=∃a K,w.heap[b]? = some (.cells a t K)
theorem Ty.ext{b:Nat}(h:Ty w b t)(X:Ext w p):Ty p b t:=by
 obtain⟨a,K,h⟩:=h;exact⟨a,K,(X.block (Bm h)).trans h⟩
theorem Ty.set{b:Nat}(h:Ty w b t)(p:Addr)(u:Value):Ty (w.setCell p u) b t:=by
 obtain⟨a,K,h⟩:=h;by_cases F:b=p.block
 .subst F
  exact⟨_,K,by simp[World.setCell,Array.getElem?_modify,h];rfl⟩
 .exact ⟨a,K,(Below.heap_setCell w p u b F).trans h⟩
theorem Ty.new(w:World)(a:Array Value)(t:TypeId):Ty (w.alloc (.cells a t)) w.heap.size t:=⟨a,_,heap_alloc_new w _⟩
theorem EB(a:Array Value)(t:TypeId)(h:n=w.heap.size):Ty (w.alloc (.cells a t)) n t:=h▸Ty.new w a t
theorem Ty.drew{b:Nat}(h:Ty w b t):Ty w.drew b t:=h
theorem Ty.alloc{b:Nat}(h:Ty w b t)(o:Obj):Ty (w.alloc o) b t:=h.ext ((Ext.refl _).alloc o)
theorem Blk.ty{g:Nat}(h:Blk w g t vy):Ty w g t:=⟨vy,_,h⟩
theorem Ext.set{w e:World}(h:Ext w e){p:Addr}(G:w.heap.size<=p.block)(u:Value):Ext w (e.setCell p u):=Below.setCell h G u
theorem Words.set{v:Value}(h:Words w v l){p:Addr}(J:Ty w p.block t)(z:t≠335)(u:Value):Words (w.setCell p u) v l:=by
 obtain⟨A,c,q,I,B,f,E⟩:=h;refine⟨A,c,q,I,B,f,λK=>?_⟩;obtain⟨b,o,a,G,L,F,M⟩:=E K
 have O:b≠p.block:=by
  rintro rfl;obtain⟨P,N,C⟩:=J;rw[F]at C;injection C with C
  injection C with _ Q
  exact z Q.symm
 exact⟨b,o,a,G,L,(Below.heap_setCell w p u b O).trans F,M⟩
theorem QW(h:n<l.length):val (l.take (n+1))=val (l.take n)+BB^n*l.getD n 0:=by
 rw[List.take_succ_eq_append_getElem h,Hh];simp[val,h,Nat.min_eq_left (Nat.le_of_lt h)]
theorem Uf(h:l.length<=n):val (l.take (n+1))=val (l.take n)+BB^n*l.getD n 0:=by
 rw[List.take_of_length_le h,List.take_of_length_le ZbK];simp[h]
theorem AM(l:List Nat)(k:Nat):val (l.take (k+1))=val (l.take k)+BB^k*l.getD k 0:=by
 rcases Nat.lt_or_ge k l.length with h | h
 .exact QW h
 .exact Uf h
theorem CS:(l.set n b).take n=l.take n:=by
 rw[List.take_set,List.set_eq_of_length_le (by rw[List.length_take];omega)]
theorem BX{k x:Nat}(h:k<l.length):(l.set k x).getD k 0=x:=by simp[h]
theorem AI(h:BD l)(k:Nat):l.getD k 0<BB:=by
 rcases Nat.lt_or_ge k l.length with C | C
 .simp only[List.getD_eq_getElem?_getD,List.getElem?_eq_getElem C,Option.getD_some]
  exact h _ (List.getElem_mem C)
 .simp [C,Cv]
theorem CQ(h:BD l)(k:Nat)(E:n<BB):BD (l.set k n):=λy O=>by
 rcases List.mem_or_eq_of_mem_set O with A | A
 .exact h y A
 .rw [A];exact E
theorem Cc(n:Nat):BD (List.replicate n 0):=λx E=>by
 rw[List.eq_of_mem_replicate E];exact Cv
theorem Zw(C:n<vo.length)(E:l.getD n 0=T)(O:f.getD n 0=m)(A:T<BB)(J:m<BB)(I:b<=1)
  (h:val (vo.take n)+BB^n*b=val (l.take n)+val (f.take n)) :
  val ((vo.set n ((T+b+m)%BB)).take (n+1))+BB^(n+1)*((T+b+m)/BB)=val (l.take (n+1))+val (f.take (n+1))/\(T+b+m)/BB<=1:=by
 constructor
 .rw [AM,CS,BX C,AM l,AM f,E,O]
  have e:=Nat.mod_add_div (T+b+m) BB
  have v:BB^n*((T+b+m)%BB)+BB^(n+1)*((T+b+m)/BB)=BB^n*(T+b+m):=by
   rw[Nat.pow_succ,Nat.mul_assoc,<-Nat.mul_add,e]
  have x:BB^n*(T+b+m)=BB^n*T+BB^n*b+BB^n*m:=by rw[Nat.mul_add,Nat.mul_add]
  omega
 .have:T+b+m<2*BB:=by omega
  have:=Nat.div_lt_of_lt_mul (show T+b+m<BB*2 by omega);omega
theorem DA(v:Value)(l:List Nat)(w:World)(h:Words w v l) :
  Calls Tryz.prog 287 #[v] w λe N=>∃S,e=.returned S/\Words N S (DB l)/\Ext w N:=by
 obtain⟨A,c,rfl,I,G,E⟩:=h.open_;have H:=Ae h;have f:=Ae h.small;clear h;have O:=Ae E;clear E;obtain⟨n,i⟩:∃n,n=l.length:=⟨_,rfl⟩;rw[<-i]at I ⊢;have M:=Ae i;clear i;go_enter Tryz.func287,Tryz.ntmps287;go_wp2;go_loop [3] (λt=>∃k:Nat,k<=n/\t=.int .i64 k/\Hid (DB l=DB (l.take k))) (λt=>(intOf t).toNat)
 case atStart=>exact Zik
 case round=>
  exact Zam
theorem Cj(n:Nat)(A:n<=70368744177664)(I J:IntKind)(W:World) :
  (Instr.makeSlice 107 (.int I (n:Int)) (.int J (n:Int))).run Tryz.prog W=.ok (.slice (some ⟨W.heap.size,0,none⟩) n n) (W.alloc (.cells (wv (List.replicate n 0)) 335)):=by
 obtain⟨i,M,o,Y,R⟩:=info_parts (show(Tryz.prog.info? 335).map (λi=>(i.zero,i.size,i.bytes))=some (some (.int .u32 0),1,4)by kernel_rfl);have F:(i.bytes:Int)*(n:Int)<=281474976710656:=by rw[R];omega
 have b:=run_make (P:=Tryz.prog) W 107 335 i (.int .u32 0) Tryz.underlying107 M o I J n n ZbK ZbK F ZbK;simp only[Int.toNat_natCast]at b;rw[b]
 have:madeCells (Value.int .u32 0).cells (n*i.size)=wv (List.replicate n 0):=by
  apply Array.ext';rw[Y,Nat.mul_one];show(madeCells #[Value.int .u32 0] n).toList=_;rw[toList_madeCells_one];simp[wv]
 rw[this]
def A7C(w wr:World)(N p r:List Nat)(n k K:Nat):Prop:=
 r.length=n+1/\BD r/\Blk wr w.heap.size 335 (wv r)/\val (r.take k)+BB^k*K=val (N.take k)+val (p.take k)/\Ext w wr
def DifRel(w wr:World)(N p r:List Nat)(n k K:Nat):Prop:=
 r.length=n/\BD r/\Blk wr w.heap.size 335 (wv r)/\val (r.take k)+val (p.take k)=val (N.take k)+BB^k*K/\Ext w wr
theorem DifRel.step{N M r:List Nat}{n k K x y:Nat}(h:DifRel w p N M r n k K)(C:k<n)(E:N.getD k 0=x)(O:M.getD k 0=y)(Q:x<4294967296)(R:y<4294967296)(I:K<=1){u z:Int}
  (G:u=(x+BB*(if x<K+y then 1 else 0)-K-y:Nat)) (F:z=(if x<K+y then 1 else 0:Nat)) :
  ∃(S J:Nat) (g:List Nat),S<=n/\Value.int .i64 ((k:Int)+1)=.int .i64 S/\Value.int .u64 z=.int .u64 J/\J<=1/\Hid (DifRel w (p.setCell ⟨w.heap.size,k,none⟩ (.int .u32 u)) N M g n S J):=by
 obtain⟨A,B,L,V,m⟩:=h;have W:(if x<K+y then 1 else 0:Nat)<=1:=by split<;>omega
 have v:x+BB*(if x<K+y then 1 else 0)-K-y<BB:=by rw[Br];split<;>omega
 have X:x+BB*(if x<K+y then 1 else 0)-K-y+y+K=x+BB*(if x<K+y then 1 else 0):=by rw[Br];split<;>omega
 generalize (if x<K+y then 1 else 0:Nat)=J at *;generalize x+BB*J-K-y=q at *;refine⟨k+1,J,r.set k q,C,by simp,by rw[F],W,by simpa using A,CQ B k v,?_,?_,Below.setCell m (Nat.le_refl _) _⟩
 .rw [G,<-If]
  exact L.set k _
 .rw [AM, CS, BX ZbK, AM N, AM M, E, O]
  have c:BB^k*q+BB^k*y+BB^k*K=BB^k*x+BB^(k+1)*J:=by
   rw[Nat.pow_succ,Nat.mul_assoc,<-Nat.mul_add,<-Nat.mul_add,<-Nat.mul_add,X]
  omega
theorem DifRel.close{N C r:List Nat}(h:DifRel w p N C r n n b)(i:N.length=n)(t:C.length<=n)(q:val C<=val N):val r=val N-val C:=by
 obtain⟨A,B,L,V,m⟩:=h;have W:N.take n=N:=List.take_of_length_le ZbK;have M:C.take n=C:=List.take_of_length_le t;have X:r.take n=r:=List.take_of_length_le ZbK;rw[W,M,X]at V;have Q:=Dw B;rw[A]at Q;rcases Nat.eq_zero_or_pos b with g | g
 .subst g;omega
 .have:BB^n*1<=BB^n*b:=Nat.mul_le_mul_left _ g
  omega
theorem Ly:∀{r:List Nat} {p q z:Nat},p<q->p<r.length->val ((r.set p z).take q)+BB^p*r.getD p 0=val (r.take q)+BB^p*z
 |[],p,q,z,_,h=>by simp at h
 |x::r,0,q+1,z,_,_=>by simp[val];omega
 |x::r,p+1,q+1,z,G,K=>by
  have A:=Ly (r:=r) (p:=p) (q:=q) (z:=z) ZbK Zdo;simp only[List.set_cons_succ,List.take_succ_cons,val,List.getD_cons_succ,Nat.pow_succ];have c:BB^p*BB*r.getD p 0=BB*(BB^p*r.getD p 0):=by rw[Nat.mul_comm (BB^p) BB,Nat.mul_assoc]
  have v:BB^p*BB*z=BB*(BB^p*z):=by rw[Nat.mul_comm (BB^p) BB,Nat.mul_assoc]
  rw[c,v,Nat.add_assoc,<-Nat.mul_add,A,Nat.mul_add,Nat.add_assoc]
def XQ(w wr:World)(N p r:List Nat)(n m k:Nat):Prop:=
 r.length=n+m/\BD r/\Blk wr w.heap.size 335 (wv r)/\val (r.take (k+m))=val (N.take k)*val p/\Ext w wr
def MulIn(w wr:World)(N p r:List Nat)(n m k j x K:Nat):Prop:=
 r.length=n+m/\BD r/\Blk wr w.heap.size 335 (wv r)/\val (r.take (k+m))+BB^(k+j)*K=val (N.take k)*val p+BB^k*(x*val (p.take j))/\Ext w wr
theorem MulIn.drewN{N A r:List Nat}{n m k j x K:Nat}(h:MulIn w p N A r n m k j x K)(q:Nat):MulIn w (p.drewN q) N A r n m k j x K:=
 ⟨h.1,h.2.1,h.2.2.1,h.2.2.2.1,h.2.2.2.2.drewN q⟩
theorem EU{x y:Nat}(E:x<4294967296)(O:y<4294967296):x*y<=18446744065119617025:=
 Nat.le_trans (Nat.mul_le_mul (Nat.le_of_lt_succ E) (Nat.le_of_lt_succ O)) ZbN
theorem MulIn.step{R S r:List Nat}{n m k j x y z N:Nat}(h:MulIn w p R S r n m k j x N)(E:j<m)(C:k<n)(O:S.getD j 0=y)(M:r.getD (k+j) 0=z)(Z:x<4294967296)(a:y<4294967296)(i:z<4294967296)(I:N<4294967296){u v:Int}
  (Q:u=((x*y+z+N)%BB:Nat)) (q:v=((x*y+z+N)/BB:Nat)) :
  ∃(b c:Nat) (g:List Nat),b<=m/\Value.int .i64 ((j:Int)+1)=.int .i64 b/\Value.int .u64 v=.int .u64 c/\c<4294967296/\Hid (MulIn w (p.setCell ⟨w.heap.size,k+j,none⟩ (.int .u32 u)) R S g n m k b x c):=by
 obtain⟨A,B,L,V,G⟩:=h;have F:=EU Z a;have K:(x*y+z+N)/BB<4294967296:=by rw[Br];omega
 refine⟨j+1,(x*y+z+N)/BB,r.set (k+j) ((x*y+z+N)%BB),E,by simp,by rw[q],K,by simpa using A,CQ B _ (Nat.mod_lt _ Cv),?_,?_,Below.setCell G (Nat.le_refl _) _⟩
 .rw [Q,<-If]
  exact L.set _ _
 .have e:=Ly (r:=r) (p:=k+j) (q:=k+m) (z:=(x*y+z+N)%BB) ZbK ZbK
  rw[M]at e;have J:=Nat.mod_add_div (x*y+z+N) BB
  have W:BB^(k+j)*((x*y+z+N)%BB)+BB^(k+(j+1))*((x*y+z+N)/BB)=BB^(k+j)*(x*y+z+N):=by
   rw[<-Nat.add_assoc,Nat.pow_succ,Nat.mul_assoc,<-Nat.mul_add,J]
  have X:BB^(k+j)*(x*y+z+N)=BB^(k+j)*(x*y)+BB^(k+j)*z+BB^(k+j)*N:=by rw[Nat.mul_add,Nat.mul_add]
  have Y:BB^k*(x*val (S.take (j+1)))=BB^k*(x*val (S.take j))+BB^(k+j)*(x*y):=by
   rw[AM,O,Nat.mul_add x,Nat.mul_add (BB^k),Nat.pow_add];congr 1;rw[Nat.mul_assoc,Nat.mul_left_comm x,Nat.mul_left_comm (BB^j)]
  omega
theorem MulIn.close{N G r:List Nat}{n m k x K:Nat}(h:MulIn w p N G r n m k m x K)(C:k<n)(t:G.length=m)(E:N.getD k 0=x)(I:K<4294967296) :
  XQ w (p.setCell ⟨w.heap.size,k+m,none⟩ (.int .u32 (K:Int))) N G (r.set (k+m) K) n m (k+1):=by
 obtain⟨A,B,L,V,F⟩:=h;have M:G.take m=G:=List.take_of_length_le ZbK;rw[M]at V;refine⟨by simpa using A,CQ B _ (by rw[Br];exact I),?_,?_,Below.setCell F (Nat.le_refl _) _⟩
 .rw [<-If];exact L.set _ _
 .rw [show k+1+m=k+m+1 by omega,AM,CS,BX ZbK,V,AM N,E,Nat.add_mul,Nat.mul_assoc]
theorem Uo(H vb:Value)(Y p:List Nat)(w:World)(s:Words w H Y)(G:Words w vb p)(L:Y.length<=4398046511104)(t:p.length<=4398046511104) :
  Calls Tryz.prog 316 #[H,vb] w λe N=>∃a,e=.returned a/\Words N a (Aq (val Y*val p))/\Ext w N:=by
 obtain⟨A,c,rfl,J,xm,F⟩:=s.open_;obtain⟨B,d,rfl,Z,xo,O⟩:=G.open_;have xg:=Ae s.small;have xk:=Ae G.small;clear s G;have hA:=Ae F;have hB:=Ae O;clear F O;obtain⟨n,h⟩:∃n,n=Y.length:=⟨_,rfl⟩;obtain⟨m,U⟩:∃m,m=p.length:=⟨_,rfl⟩;rw[<-h]at J L ⊢;rw[<-U]at Z t ⊢;replace h:=Ae h;replace U:=Ae U;have xj:=λW=>Cj (n+m) ZbK .i64 .i64 W;simp only[Int.natCast_add]at xj;go_enter Tryz.func316,Tryz.ntmps316;go_wp2;go_loopw [19] (λi wr=>∃(k:Nat) (r:List Nat),k<=n/\i=.int .i64 k/\Hid (XQ w wr Y p r n m k)) (λi _=>n-(intOf i).toNat)
 case atStart => exact ⟨0, List.replicate (n + m) 0, Nat.zero_le _, rfl, by simp, Cc _, Blk.new _ _ _, by
  have:∀q,val (List.replicate q 0)=0:=λq=>by
   induction q with
   |zero=>rfl
   |succ q g=>simp[List.replicate_succ,val,g]
  simp[val,List.take_replicate,this],(Ext.refl _).alloc _⟩
 case round=>
  obtain⟨k,r,E,rfl,T⟩:=hrel;by_cases Q:k<n
  .obtain ⟨b, o, rfl, G, u⟩:=hA.out (by rw [<-h.out]; omega)
   replace u:=(T.out.2.2.2.2.cell (p:=⟨b,o+k,none⟩) G).trans (u k (by rw[<-h.out];omega));have xc:=AI xg.out k;generalize F:Y.getD k 0=x at *;replace F:=Ae F;unfold BB at xc;go_wp2;obtain⟨wo,rfl⟩:∃wo:World,wo=wr:=⟨_,rfl⟩;go_loopw [7,29] (λcy i wr=>∃(j X:Nat) (r:List Nat),j<=m/\i=.int .i64 j/\cy=.int .u64 X/\X<4294967296/\Hid (MulIn w wr Y p r n m k j x X)) (λ_ i _=>m-(intOf i).toNat)
   case atStart=>exact⟨0,0,r,Nat.zero_le _,rfl,rfl,by omega,T.out.1,T.out.2.1,T.out.2.2.1,by simp[val,T.out.2.2.2.1],T.out.2.2.2.2⟩
   case round=>
    obtain⟨j,X,r,K,rfl,rfl,xh,f⟩:=hrel;by_cases xn:j<m
    .obtain ⟨M, l, rfl, P, xl⟩:=hB.out (by rw [<-U.out]; omega)
     replace xl:=(f.out.2.2.2.2.cell (p:=⟨M,l+j,none⟩) P).trans (xl j ZeU);have xe:=AI xk.out j;have xf:=AI f.out.2.1 (k+j);have R:wr.cell? ⟨w.heap.size,k+j,none⟩=some (.int .u32 (r.getD (k+j) 0:Nat)):=by rw[f.out.2.2.1.cell,Dr (by rw[f.out.1];omega)]
     have xd:=f.out.2.2.1.frozen (k+j);generalize O:p.getD j 0=y at *;generalize V:r.getD (k+j) 0=z at *;replace O:=Ae O;replace V:=Ae V;unfold BB at xe xf;have I:(x:Int)*y<=18446744065119617025:=by have:=EU xc xe;omega
     have xi:(0:Int)<=(x:Int)*y:=Int.mul_nonneg ZbK ZbK;go_wp2;go_quiet (fail);go_wp2;exact⟨(f.out.drewN nq).step xn Q O.out V.out xc xe xf xh ZcJ ZcJ,by simp[intOf];omega⟩
    .obtain rfl:j=m:=by omega
     have R:wr.cell? ⟨w.heap.size,k+j,none⟩=some (.int .u32 (r.getD (k+j) 0:Nat)):=by rw[f.out.2.2.1.cell,Dr (by rw[f.out.1];omega)]
     have xd:=f.out.2.2.1.frozen (k+j);have xb:=Ae (f.out.close Q U.out.symm F.out xh);go_wp2;exact⟨⟨k+1,_,Q,by simp,xb⟩,by simp[intOf];omega⟩
  .obtain rfl:k=n:=by omega
   have v:Hid (Words wr (.slice (some ⟨w.heap.size,0,none⟩) (k+m) (k+m)) r):=by
    have:=Cn (c:=k+m) T.out.2.2.1 T.out.2.1 Zcr ZbK;exact ZfM
   have xb:Hid (val r=val Y*val p):=by
    have C:=T.out.2.2.2.1;have er:r.take (k+m)=r:=List.take_of_length_le Zcr;have ea:Y.take k=Y:=List.take_of_length_le (by rw[<-h.out];omega);rw[er,ea]at C;exact C
   go_wp2_with (go_at_call 287;refine(DA _ _ _ v.out).mono ?_;rintro e N ⟨a,rfl,xa,S⟩);go_ret;refine⟨a,rfl,?_,T.out.2.2.2.2.trans S⟩;rw[AU T.out.2.1,xb.out]at xa;exact xa
theorem QY(h:w.ownsRow n 335 1 z b (wv l).toList)(f:BD l):Words w z l:=by
 obtain⟨A,B⟩:=h;have K:l.length=b:=by simpa[wv]using A
 rcases B with⟨rfl,rfl⟩ | ⟨g,cap,cur,rfl,_,hg,hc,hm,hsz,ht⟩
 .have:l=[]:=List.eq_nil_of_length_eq_zero K
  subst this;exact Words.nil _ _ _ ZbK
 .subst K
  refine⟨_,cap,rfl,hc,by simpa[maxLen]using hm,f,λ_=>⟨g,0,cur,(0,0),rfl,hg,λi M=>?_⟩⟩;have:(cur.toList.take (l.length*1))[i]? = (wv l).toList[i]?:=by rw[ht]
  rw[List.getElem?_take,if_pos ZbK]at this;have v:=A0X M;rw[Nat.zero_add];simpa[v]using this
theorem KY(w:World)(t A e:TypeId)(i:TypeInfo)(J:P.underlying t=some (.slice e))(M:P.info? e=some i)(c:Nat) :
  (Builtin.append_ #[t,t] A #[.slice none 0 0,.slice none 0 c]).run P w=.ok (.slice none 0 0) w:=by
 simp[Builtin.append_,run_underlying J,sizeOf,typeInfo,M,Builtin.lenOf,Builtin.firstCells]
theorem Xf(b o j:Nat):Addr.add ⟨b,o,none⟩ j=⟨b,o+j,none⟩:=by
 unfold Addr.add;split
 .rename_i h;subst h;rfl
 .rfl
theorem Fx{rest:List Oper}(V:va.guard=none)(s x:Operand)(t:TypeId)
  (o:va.op=.call { callee:=.builtin .append,args:=#[s,x],argTypes:=#[t,t] }) (v u:Value) (f:vj.eval s=v) (E:vj.eval x=u)
  (k:(Builtin.append_ #[t,t] va.type #[v,u]).run P w=.ok z p) (h:wpList P vY vM rest (vj.put va.dst z) p):wpList P vY vM (va::rest) vj w:=by
 refine wpList_plain V λK m=>?_;unfold Oper.wp execOp;simp only[o,resolve,invoke,builtin,Sem.run_bind,Sem.run_pure,Result.andThen_ok,List.map_toArray,List.map_cons,List.map_nil,f,E,k];exact m _ _ h
theorem NU(h:Words w (.slice uv l.length n) l)(B:l.length<=35184372088832) :
  ∃S N,(Builtin.append_ #[107,107] 107 #[.slice none 0 0,.slice uv l.length n]).run Tryz.prog w=.ok S N/\Words N S l/\Ext w N:=by
 obtain⟨i,M,V,Y,a⟩:=info_parts (show(Tryz.prog.info? 335).map (λi=>(i.zero,i.size,i.bytes))=some (some (.int .u32 0),1,4)by kernel_rfl);have f:=h.small;obtain⟨O,G,q,I,t,E⟩:=h.open_;injection q with A _ L
 subst A;subst L
 cases uv with
 |none=>
  have K:l.length=0:=by
   rcases Nat.eq_zero_or_pos l.length with g | g
   .exact g
   .obtain ⟨b,o,R,_⟩:=E g;cases R
  have:l=[]:=List.eq_nil_of_length_eq_zero K;subst this;exact⟨_,_,KY w _ _ _ i Tryz.underlying107 M n,Words.nil _ _ _ ZbK,Ext.refl _⟩
 |some d=>
  have Z:∀(j:Nat) (u:Value),(wv l).toList[j]? = some u->w.cell? (d.add j)=some u:=by
   intro j u F
   have e:j<l.length:=by
    have:=(List.getElem?_eq_some_iff.1 F).1;simpa[wv]using this
   obtain⟨b,o,R,_,Q⟩:=E ZbK;have s:=Option.some.inj R;subst s;have c:=Q j e;have v:=Dr e
   have J:u=.int .u32 (l.getD j 0:Nat):=by
    rw[Array.getElem?_toList,v]at F;exact(Option.some.inj F).symm
   rw[J,<-c,Xf]
  have W:∀u∈(wv l).toList,u.oneCell'=true:=by
   intro u F;have X:u∈l.map λx=>Value.int .u32 (x:Nat):=by simpa[wv]using F
   obtain⟨x,_,rfl⟩:=List.mem_map.1 X;rfl
  obtain ⟨S, N, k, T, C, _⟩ := run_append_own (P := Tryz.prog) w w.heap.size 107 107 335 i (.int .u32 0) 1 4 Tryz.underlying107 M V Y a rfl ZbK
   (.slice none 0 0) 0 [] ⟨by simp,.inl ⟨rfl,rfl⟩⟩ d l.length n (wv l).toList (by simp[wv]) Z W Zev ZbK (Nat.le_refl _)
  refine⟨S,N,k,?_,?_⟩
  .rw [List.nil_append]at T
   exact QY T f
  .exact (Ext.refl w).trans ((Below.refl _ _).grown C (Nat.le_refl _) (by simp[Value.ownBlock]))
theorem Ks(v:Value)(l:List Nat)(w:World)(h:Words w v l)(i:l.length<=35184372088832) :
  Calls Tryz.prog 317 #[v] w λe N=>∃B,e=.returned B/\Words N B l/\Ext w N:=by
 obtain⟨A,c,rfl,I,t,E⟩:=h.open_;obtain⟨B,N,k,C,S⟩:=NU h i;replace k:=Ae k;clear E h;go_enter Tryz.func317,Tryz.ntmps317;go_wp2_with (at_builtin;refine Fx rfl _ _ _ rfl _ _ rfl rfl k.out ?_);go_ret;exact⟨B,rfl,C,S⟩
theorem My(m:Nat)(w:World)(t:m<18446744073709551616) :
  Calls Tryz.prog 237 #[.int .u64 m] w λe N=>∃A,e=.returned A/\Words N A (Aq m)/\Ext w N:=by
 have v:Words (w.alloc (.cells (wv [m%BB,m/BB]) 335)) (.slice (some ⟨w.heap.size,0,none⟩) 2 2) [m%BB,m/BB]:=
  Cn (l:=[m%BB,m/BB]) (c:=2) (Blk.new _ _ _) (λx E=>by
   simp at E;rcases E with rfl | rfl
   .exact Nat.mod_lt _ Cv
   .exact Nat.div_lt_of_lt_mul ZcJ) ZbV ZbK
 have q:Hid (val [m%BB,m/BB]=m):=by
  show m%BB+BB*(m/BB+BB*0)=m;exact ZhK
 have c:Hid ((w.alloc (.cells (wv [m%BB,m/BB]) 335))=w.alloc (.cells #[.int .u32 ((m:Int)%4294967296),.int .u32 ((m:Int)/4294967296)] 335)):=by
  simp[wv,Br,Hid]
 have B:=Ae v;have j:=Ae v.small;rw[c.out]at B;clear v;go_enter Tryz.func237,Tryz.ntmps237;go_wp2_with fail;refine(DA _ _ _ B.out).mono ?_;rintro e N ⟨A,rfl,a,S⟩;go_wp2;go_ret;refine⟨A,rfl,?_,((Ext.refl _).alloc _).trans S⟩;rw[AU j.out,q.out]at a;exact a
theorem RI(a:Nat)(s:a<18446744073709551616):(BitVec.ofInt 64 (a:Int)).toNat=a:=by
 rw[BitVec.ofInt_natCast,BitVec.toNat_ofNat];exact Nat.mod_eq_of_lt s
theorem Pv{q x:Nat}(w:q<4294967296)(E:x<4294967296):bits .or .u64 (q:Int) ((x:Int)*4294967296)=((q+x*4294967296:Nat):Int):=by
 have A:((x:Int)*4294967296)=((x*4294967296:Nat):Int):=by omega
 have B:q ||| (x*4294967296)=q+x*4294967296:=by
  have:=Nat.shiftLeft_add_eq_or_of_lt (i:=32) (b:=q) ZbK x;rw[Nat.shiftLeft_eq,show(2:Nat)^32=4294967296 from rfl]at this;rw[Nat.or_comm];omega
 rw[A];show IntKind.u64.wrap ((BitVec.ofInt 64 (q:Int) ||| BitVec.ofInt 64 ((x*4294967296:Nat):Int)).toNat:Int)=_;rw[BitVec.toNat_or,RI q ZbK,RI _ ZbK,IntKind.wrap_u64,B];omega
theorem Rn(v:Value)(l:List Nat)(w:World)(h:Words w v l)(J:l.length<=2) :
  Calls Tryz.prog 318 #[v] w λe N=>e=.returned (.int .u64 (val l:Nat))/\Ext w N:=by
 obtain⟨A,c,rfl,I,K,F⟩:=h.open_;have f:=Ae h.small;clear h;have S:=Ae F;clear F;obtain⟨n,O⟩:∃n,n=l.length:=⟨_,rfl⟩;rw[<-O]at I J ⊢;replace O:=Ae O;go_enter Tryz.func318,Tryz.ntmps318;go_wp2;go_loop [3,7] (λt i=>∃(k q:Nat),k<=n/\i=.int .i64 k/\t=.int .u64 q/\Hid (q=val (l.take k))) (λ_ i=>n-(intOf i).toNat)
 case atStart=>exact⟨0,0,Nat.zero_le _,rfl,rfl,rfl⟩
 case round=>
  obtain⟨k,q,E,rfl,rfl,M⟩:=hrel;by_cases Q:k<n
  .obtain ⟨b, o, rfl, G, R⟩:=S.out (by rw [<-O.out]; omega)
   replace R:=R k Zdq;have V:=AI f.out k;have X:=Ae (AM l k);generalize F:l.getD k 0=x at *;replace F:=Ae F;unfold BB at V;have Y:k=0\/k=1:=by omega
   rcases Y with rfl | rfl
   .obtain rfl:q=0:=by rw [M.out];rfl
    simp only[Nat.add_zero]at R;go_wp2;refine⟨⟨1,x,by omega,rfl,?_,?_⟩,by simp[intOf];omega⟩
    .have B:=Pv (q:=x) (x:=0) V ZbK
     have C:bits .or .u64 0 (x:Int)=bits .or .u64 (x:Int) 0:=by
      show IntKind.u64.wrap ((BitVec.ofInt 64 0 ||| BitVec.ofInt 64 (x:Int)).toNat:Int)=IntKind.u64.wrap ((BitVec.ofInt 64 (x:Int) ||| BitVec.ofInt 64 0).toNat:Int);rw[BitVec.or_comm]
     have L:bits .or .u64 (x:Int) 0=x:=Zih
     rw[C,L]
    .have:=X.out
     rw[<-M.out]at this;simpa[Hid]using this.symm
   .have W:q<4294967296:=by
     rw[M.out];have B:=AM l 0;have C:=AI f.out 0;simp[val]at B;rw[B];simpa[Br]using C
    go_wp2;refine⟨⟨2,q+BB*x,by omega,rfl,?_,?_⟩,by simp[intOf];omega⟩
    .rw [Pv W V,Br];congr 1;omega
    .have:=X.out
     rw[<-M.out,Nat.pow_one]at this;exact this.symm
  .obtain rfl:k=n:=by omega
   go_wp2;go_ret;exact⟨by rw[M.out,List.take_of_length_le Zdq];rfl,Ext.refl _⟩
def EC(a b:Nat):Int:=if a<b then -1 else if b<a then 1 else 0
theorem BH{x y:Nat}(h:x<=y):(Aq x).length<=(Aq y).length:=by
 induction y using Nat.strongRecOn generalizing x with
 |_ y q=>
  by_cases E:x=0
  .subst E;rw[BA];exact Nat.zero_le _
  .have O:y≠0:=by omega
   rw[Eo E,Eo O];simp only[List.length_cons];have:=q (y/BB) (Nat.div_lt_self ZbK ZbN) (Nat.div_le_div_right (c:=BB) h);omega
theorem Rp(s:BD l)(K:l.length=f.length)(C:n<l.length)(X:∀i,n<i->l.getD i 0=f.getD i 0)(Q:l.getD n 0<f.getD n 0):val l<val f:=by
 have key:∀(j:Nat),n+1+j<=l.length->val (l.take (n+1+j))<val (f.take (n+1+j)):=by
  intro j
  induction j with
  |zero=>
   intro _;rw[Nat.add_zero,AM,AM]
   have A:val (l.take n)<BB^n:=by
    have:=Dw (l:=l.take n) λx E=>s x (List.mem_of_mem_take E);rwa [List.length_take,Nat.min_eq_left (Nat.le_of_lt C)]at this
   have B:BB^n*(l.getD n 0+1)<=BB^n*f.getD n 0:=Nat.mul_le_mul_left _ Q;rw[Nat.mul_add]at B;omega
  |succ j q=>
   intro e;have:=q ZbK;rw[<-Nat.add_assoc,AM,AM,X (n+1+j) ZbK];omega
 have:=key (l.length-(n+1)) ZbK;rw[show n+1+(l.length-(n+1))=l.length by omega,List.take_of_length_le (Nat.le_refl _),List.take_of_length_le ZbK]at this;exact this
theorem WQ(K:l.length=f.length)(X:∀i,i<l.length->l.getD i 0=f.getD i 0):l=f:=by
 apply List.ext_getElem K;intro i A B;have:=X i A;simpa[A,B]using this
theorem JQ(h:(Aq n).length<(Aq b).length):EC n b=-1:=by
 have:n<b:=by
  rcases Nat.lt_or_ge n b with A | A
  .exact A
  .have:=BH A;omega
 simp[EC,this]
theorem JR(h:(Aq b).length<(Aq n).length):EC n b=1:=by
 have:b<n:=by
  rcases Nat.lt_or_ge b n with A | A
  .exact A
  .have:=BH A;omega
 have B:¬n<b:=by omega
 simp[EC,this,B]
theorem Qf{x y k:Nat}(K:(Aq x).length=(Aq y).length)(C:k<(Aq x).length)(X:∀i,k<i->(Aq x).getD i 0=(Aq y).getD i 0)(Q:(Aq x).getD k 0<(Aq y).getD k 0):EC x y=-1:=by
 have:=Rp (BR x) K C X Q;rw[Aw,Aw]at this;simp[EC,this]
theorem Qg{x y k:Nat}(K:(Aq x).length=(Aq y).length)(C:k<(Aq x).length)(X:∀i,k<i->(Aq x).getD i 0=(Aq y).getD i 0)(Q:(Aq y).getD k 0<(Aq x).getD k 0):EC x y=1:=by
 have:=Rp (BR y) K.symm ZbK (λi M=>(X i M).symm) Q;rw[Aw,Aw]at this;have B:¬x<y:=by omega
 simp[EC,this,B]
theorem Qh(K:(Aq n).length=(Aq b).length)(X:∀i,(Aq n).getD i 0=(Aq b).getD i 0):EC n b=0:=by
 have:=WQ K λi _=>X i;have B:n=b:=by rw[<-Aw n,<-Aw b,this]
 simp[EC,B]
theorem HU(j R:Value)(x y:Nat)(w:World)(s:Words w j (Aq x))(I:Words w R (Aq y)) :
  Calls Tryz.prog 284 #[j,R] w λe N=>e=.returned (.int .i64 (EC x y))/\Ext w N:=by
 obtain⟨A,c,rfl,J,P,G⟩:=s.open_;obtain⟨B,d,rfl,Z,h,O⟩:=I.open_;clear s I;have S:=Ae G;have v:=Ae O;clear G O;obtain⟨n,t⟩:∃n,n=(Aq x).length:=⟨_,rfl⟩;obtain⟨m,L⟩:∃m,m=(Aq y).length:=⟨_,rfl⟩;rw[<-t]at J ⊢;rw[<-L]at Z ⊢;replace t:=Ae t;replace L:=Ae L;rcases Nat.lt_trichotomy n m with Q | heq | hgt
 .have z:((n:Int) != m)=true:=Zhz
  go_enter Tryz.func284,Tryz.ntmps284;go_wp2;exact Zhb
 .subst heq
  have z:((n:Int) != n)=false:=by simp
  go_enter Tryz.func284,Tryz.ntmps284;go_wp2;go_loopw [5] (λi wr=>∃k:Nat,k<=n/\i=.int .i64 ((k:Int)-1)/\Hid (Ext w wr/\∀i,k<=i->(Aq x).getD i 0=(Aq y).getD i 0)) (λi _=>(intOf i+1).toNat)
  case atStart=>exact Zan
  case round=>
   obtain⟨k,F,rfl,T⟩:=hrel;by_cases U:k=0
   .exact Zao
   .obtain ⟨q, rfl⟩:∃q, k=q+1:=⟨k-1, by omega⟩
    obtain⟨b,o,rfl,I,K⟩:=S.out Zdc;replace K:=(T.out.1.cell (p:=⟨b,o+q,none⟩) I).trans (K q Zdc);obtain⟨r,l,rfl,p,f⟩:=v.out Zen;replace f:=(T.out.1.cell (p:=⟨r,l+q,none⟩) p).trans (f q Zen);generalize V:(Aq x).getD q 0=X at *;generalize a:(Aq y).getD q 0=Y at *;replace V:=Ae V;replace a:=Ae a;have W:((q+1:Nat):Int)-1=q:=by omega
    rw[W];rcases Nat.lt_trichotomy X Y with Q | heq | hgt
    .have g:((X:Int) != Y)=true:=Zhz
     go_wp2;go_quiet (fail);go_wp2;go_quiet (fail);go_wp2;go_ret;exact⟨by rw[Qf (k:=q) ZdF Zdc (λi M=>T.out.2 i M) (by rw[V.out,a.out];exact Q)];rfl,(T.out.1.drewN _).drewN _⟩
    .subst heq
     have g:((X:Int) != X)=false:=by simp
     go_wp2;go_quiet (fail);go_wp2;refine⟨⟨q,by omega,rfl,T.out.1.drewN _,λi M=>?_⟩,by simp[intOf]⟩;rcases Nat.lt_or_ge q i with C | C
     .exact T.out.2 i C
     .obtain rfl:i=q:=by omega
      rw[V.out,a.out]
    .have g:((X:Int) != Y)=true:=Zhz
     have u:¬((X:Int)<Y):=by omega
     go_wp2;go_quiet (fail);go_wp2;go_quiet (fail);go_wp2;exact Zge
 .have z:((n:Int) != m)=true:=Zhz
  go_enter Tryz.func284,Tryz.ntmps284;go_wp2;exact ZgT
def IsInt(w:World)(m c:Value)(z:Int):Prop:=m=.bool (decide (z<0))/\Words w c (Aq z.natAbs)
theorem IsInt.ext(h:IsInt w z v i)(X:Ext w p):IsInt p z v i:=⟨h.1,h.2.ext X⟩
def Ik(z:Int)(w:World)(e:Ending)(N:World):Prop:=∃(b:Bool) (A:Option Addr) (n c:Nat),e=.returned (.agg #[.bool b,.slice A n c])/\IsInt N (.bool b) (.slice A n c) z/\Ext w N
theorem IsInt.set{m c:Value}{z:Int}(h:IsInt w m c z){p:Addr}(J:Ty w p.block t)(A:t≠335)(u:Value):IsInt (w.setCell p u) m c z:=⟨h.1,h.2.set J A u⟩
def IG(neg:Bool)(n:Nat):Int:=if neg then -(n:Int)else n
theorem KW(neg:Bool)(n:Nat):(IG neg n).natAbs=n:=by cases neg<;>simp[IG]
theorem SB(h:n≠0):decide (IG q n<0)=q:=by cases q<;>simp[IG]<;>omega
theorem In(neg:Bool):IG neg 0=0:=by cases neg<;>rfl
theorem Yt:IG (!decide (i<0)) i.natAbs=-i:=by
 by_cases h:i<0<;>simp[IG,h]<;>omega
theorem LC{z:Int}:IG (decide (z<0)) z.natAbs=z:=by
 by_cases h:z<0<;>simp[IG,h]<;>omega
theorem IsInt.bool_eq(h:IsInt w (.bool q) z i):q=decide (i<0):=by
 have:=h.1;injection this
theorem IsInt.neg_eq(h:IsInt w (.bool q) z i):IG (!q) i.natAbs=-i:=by rw[h.bool_eq];exact Yt
theorem Ba:(Aq n).length=0↔n=0:=by
 constructor
 .intro h
  have:Aq n=[]:=List.eq_nil_of_length_eq_zero h;rw[<-Aw n,this];rfl
 .rintro rfl;rw[BA];rfl
theorem Ext.cells{W e:World}(F:Ext W e):(∀b o,b<W.heap.size->e.cell? ⟨b,o,none⟩=W.cell? ⟨b,o,none⟩)/\(∀b o,b<W.heap.size->e.frozen? ⟨b,o,none⟩=W.frozen? ⟨b,o,none⟩):=
 ⟨λb o h=>F.cell (p:=⟨b,o,none⟩) h,λb o h=>F.frozen (p:=⟨b,o,none⟩) h⟩
theorem DQ(neg:Bool)(v:Value)(l:List Nat)(w:World)(h:Words w v l) :
  Calls Tryz.prog 236 #[.bool neg,v] w λe N=>Ik (IG neg (val l)) w e N:=by
 have f:=Ae h.small;have H:=Ae h;clear h;go_enter Tryz.func236,Tryz.ntmps236;go_wp2_with fail;refine(DA _ _ _ (H.out.ext ((Ext.refl _).alloc _))).mono ?_;rintro e C ⟨B,rfl,a,S⟩;rw[AU f.out]at a;obtain⟨A,c,rfl,I,t,E⟩:=a.open_;replace E:=Ae E;obtain⟨F,G⟩:=S.cells;by_cases g:(Aq (val l)).length=0
 .have U:=Ae (Ba.1 g)
  generalize i:(Aq (val l)).length=n at *;subst g;replace i:=Ae i;go_wp2;refine bodyPost_ret (v:=.agg #[.bool false,.slice none 0 0]) ZeO rfl ⟨_,_,_,_,rfl,⟨?_,?_⟩,?_⟩
  .rw [U.out,In];rfl
  .rw [U.out,In]
   show Words _ _ (Aq 0);rw[BA];exact Words.nil _ _ _ ZbK
  .exact Zil
 .have U:=Ae (λe=>g (Ba.2 e))
  have z:(((Aq (val l)).length:Int)==0)=false:=by simpa using g
  go_wp2;refine bodyPost_ret (v:=.agg #[.bool neg,.slice A (Aq (val l)).length c]) ZeO rfl ⟨_,_,_,_,rfl,⟨?_,?_⟩,?_⟩
  .rw [SB U.out]
  .rw [KW]
   have J:=(Ty.new w #[Value.bool false,Value.slice none 0 0] 109).ext S;exact(a.set J ZbN _).set (J.set _ _) ZbN _
  .exact Zil
theorem Rm(z:Int)(w:World)(g:0<=z)(t:z<18446744073709551616) :
  Calls Tryz.prog 237 #[.int .u64 z] w λe N=>∃S,e=.returned S/\Words N S (Aq z.toNat)/\Ext w N:=by
 obtain⟨m,rfl⟩:=Int.eq_ofNat_of_zero_le g;rw[Int.toNat_natCast];exact My m w ZbK
theorem A5c(n:Int)(w:World)(g:-9223372036854775808<=n)(A:n<=9223372036854775807) :
  Calls Tryz.prog 139 #[.int .i64 n] w λe N=>Ik n w e N:=by
 by_cases i:n<0
 .have Z:decide (n<0)=true:=by simpa using i
  have c:Hid (IntKind.u64.wrap (-(IntKind.u64.wrap n))=-n):=by
   simp only[IntKind.wrap_u64,Hid];omega
  go_enter Tryz.func139,Tryz.ntmps139;go_wp2_with fail;rw[c.out];refine(Rm _ _ ZbK ZbK).mono ?_;rintro e C ⟨B,rfl,v,S⟩;go_wp2_with fail;refine(DQ _ _ _ _ v).mono ?_;rintro e G ⟨U,M,L,X,rfl,E,F⟩;replace F:=S.trans F;obtain⟨I,K⟩:=F.cells;replace E:=Ae E;replace F:=Ae F;clear S v;go_wp2;refine bodyPost_ret (v:=.agg #[.bool U,.slice M L X]) ZeM rfl ⟨_,_,_,_,rfl,?_,?_⟩
  .exact Zap
  .exact Zim
 .have Z:decide (n<0)=false:=by simpa using i
  go_enter Tryz.func139,Tryz.ntmps139;go_wp2_with fail;refine(Rm _ _ ZbK ZbK).mono ?_;rintro e C ⟨B,rfl,v,S⟩;go_wp2_with fail;refine(DQ _ _ _ _ v).mono ?_;rintro e G ⟨U,M,L,X,rfl,E,F⟩;replace F:=S.trans F;obtain⟨I,K⟩:=F.cells;replace E:=Ae E;replace F:=Ae F;clear S v;go_wp2;refine bodyPost_ret (v:=.agg #[.bool U,.slice M L X]) ZeM rfl ⟨_,_,_,_,rfl,?_,?_⟩
  .exact Zaq
  .exact Zim
theorem A1e(b:Bool)(A:Option Addr)(n c:Nat)(z:Int)(w:World)(h:IsInt w (.bool b) (.slice A n c) z) :
  Calls Tryz.prog 235 #[.agg #[.bool b,.slice A n c]] w λe N=>e=.returned (.int .i64 z.sign)/\Ext w N:=by
 obtain⟨B,C⟩:=h;obtain⟨K,f,q,I,t,E⟩:=C.open_;injection q with F v x
 subst F;subst x;clear E C;injection B with B
 by_cases g:z=0
 .subst g
  have L:n=0:=by rw[v];show(Aq 0).length=0;rw[BA];rfl
  subst L;clear B v;go_enter Tryz.func235,Tryz.ntmps235;go_wp2;go_ret;exact⟨rfl,(Ext.refl _).alloc _⟩
 .have L:n≠0:=by
   rw[v];intro e;have:=Ba.1 e;omega
  have J:((n:Int)==0)=false:=by simpa using L
  replace v:=Ae v
  cases b with
  |true=>
   have G:z<0:=by simpa using B
   clear B;go_enter Tryz.func235,Tryz.ntmps235;go_wp2;go_ret;exact⟨by rw[Int.sign_eq_neg_one_of_neg G];rfl,(Ext.refl _).alloc _⟩
  |false=>
   have G:0<z:=by
    have:¬z<0:=Zih
    omega
   clear B;go_enter Tryz.func235,Tryz.ntmps235;go_wp2;go_ret;exact⟨by rw[Int.sign_eq_one_of_pos G];rfl,(Ext.refl _).alloc _⟩
theorem A3A(b:Bool)(A:Option Addr)(n c:Nat)(z:Int)(w:World)(h:IsInt w (.bool b) (.slice A n c) z)(i:(Aq z.natAbs).length<=4398046511104) :
  Calls Tryz.prog 292 #[.agg #[.bool b,.slice A n c]] w (Ik (-z) w):=by
 replace h:=Ae h;replace i:=Ae i;go_enter Tryz.func292,Tryz.ntmps292;go_wp2
 refine wp_region_v ZbM [[], [(3, 0)], [(4, 1)], [], [(6, 3)], [(7, 4)], [(5, 2), (8, 5)]] [[], [0], [0, 1], [], [3], [3, 4], [0, 1, 2, 3, 4, 5]]
  [λv _=>v=.pointer (some ⟨w.heap.size,0,none⟩),λv _=>v=.bool b,λv _=>v=.bool (!b),λv _=>v=.pointer (some ⟨w.heap.size,1,none⟩),λv _=>v=.slice A n c,λv N=>Words N v (Aq z.natAbs),λv N=>∃b A n c,v=.agg #[.bool b,.slice A n c]/\IsInt N (.bool b) (.slice A n c) (-z)]
  rfl ZbM ZbM ?stab ?steps ?fin
 case stab=>exact .cons (Stab.eq _) (.cons (Stab.eq _) (.cons (Stab.eq _) (.cons (Stab.eq _) (.cons (Stab.eq _) (.cons (λ_ _ _ X h=>h.ext X) (.cons (λ_ _ _ X ⟨b,A,n,c,B,C⟩=>⟨b,A,n,c,B,C.ext X⟩) .nil))))))
 case steps=>
  refine .cons ?s0 (.cons ?s1 (.cons ?s2 (.cons ?s3 (.cons ?s4 (.cons ?s5 (.cons ?s6 .nil))))))
  case s0=>
   intro N G S E s I p;exact ZgG
  case s1=>
   intro N G S E s I p;have x:G (.tmp 3)=.pointer (some ⟨w.heap.size,0,none⟩):=E.1 _ rfl;have m:N.cell? ⟨w.heap.size,0,none⟩=some (.bool b):=S.cellv ZbV;exact Ar (by simp[execOp,x,m,go_sem]) rfl
  case s2=>
   intro N G S E s I p;have W:G (.tmp 4)=.bool b:=E.1 _ rfl;exact Ar (by simp[execOp,W,go_sem]) rfl
  case s3=>
   intro N G S E s I p;exact ZgG
  case s4=>
   intro N G S E s I p;have d:G (.tmp 6)=.pointer (some ⟨w.heap.size,1,none⟩):=E.1 _ rfl;have m:N.cell? ⟨w.heap.size,1,none⟩=some (.slice A n c):=S.cellv ZbV;exact Ar (by simp[execOp,d,m,go_sem]) rfl
  case s5=>
   intro N G S E s I p;have j:G (.tmp 7)=.slice A n c:=E.1 _ rfl;refine Cl (by simp[execOp,resolve,invoke,j,p,go_sem]) (Ks _ _ _ (h.out.2.ext ((((Ext.refl _).alloc _).alloc _).drew.trans S)) (by have:=i.out;omega)) ?_;rintro e L ⟨k,rfl,M,O⟩;exact⟨k,rfl,O,M⟩
  case s6=>
   intro N G S E s I p;have R:G (.tmp 5)=.bool (!b):=E.1 _ rfl;have u:Words N (G (.tmp 8)) (Aq z.natAbs):=E.2.1 _ rfl;refine Cl (by simp[execOp,resolve,invoke,R,p,go_sem]) (DQ (!b) _ _ _ u) ?_;rintro e L ⟨t,l,Y,f,rfl,y,O⟩;exact⟨_,rfl,O,t,l,Y,f,rfl,by rw[Aw]at y;rw[<-h.out.neg_eq];exact y⟩
 case fin=>
  intro g N S hF;obtain⟨a,q,Z,r,K,o⟩:=hF 6 _ rfl;simp only[List.length_cons,List.length_nil,Nat.reduceAdd,List.drop_succ_cons,List.drop_zero,List.take_succ_cons,List.take_zero,EG,Act.put,List.setIfInBounds_toArray,List.set_cons_succ,List.set_cons_zero,K];clear hF K;replace o:=Ae o;obtain⟨Q,V⟩:=S.cells;replace S:=Ae S;go_wp2;refine bodyPost_ret (v:=.agg #[.bool a,.slice q Z r]) (by simp[results,Tryz.results292,go_sem,Q]) rfl ⟨_,_,_,_,rfl,?_,?_⟩
  .have J:Ty N (w.heap.size+1) 109:=by simpa using (Ty.new (w.alloc (.cells #[Value.bool b, Value.slice A n c] 109)) _ _).ext ((Ext.refl _).drew.trans S.out)
   exact Zin
  .exact (((((Ext.refl _).alloc _).alloc _).drew.trans S.out).set ZbV _).set ZbV _
theorem SC(x y:Int):IG (!(decide (x<0)==decide (y<0))) (x.natAbs*y.natAbs)=x*y:=by
 have h:=LC (z:=x);have a:=LC (z:=y);generalize decide (x<0)=p at *;generalize decide (y<0)=q at *;generalize x.natAbs=m at *;generalize y.natAbs=n at *;subst h;subst a;cases p<;>cases q<;>simp[IG,Int.natCast_mul,Int.neg_mul,Int.mul_neg]
theorem A3D(b r:Bool)(A O:Option Addr)(n c Y f:Nat)(x y:Int)(w:World)(h:IsInt w (.bool b) (.slice A n c) x)(a:IsInt w (.bool r) (.slice O Y f) y)(i:(Aq x.natAbs).length<=4398046511104)(V:(Aq y.natAbs).length<=4398046511104) :
  Calls Tryz.prog 286 #[.agg #[.bool b,.slice A n c],.agg #[.bool r,.slice O Y f]] w (Ik (x*y) w):=by
 replace h:=Ae h;replace a:=Ae a;replace i:=Ae i;replace V:=Ae V;go_enter Tryz.func286,Tryz.ntmps286;go_wp2
 refine wp_region_v ZbM [[], [(5, 0)], [], [(7, 2)], [(6, 1), (8, 3)], [], [(10, 5)], [], [(12, 7)], [(11, 6), (13, 8)], [(9, 4), (14, 9)]] [[], [0], [], [2], [0, 1, 2, 3], [], [5], [], [7], [5, 6, 7, 8], [0, 1, 2, 3, 4, 5, 6, 7, 8, 9]]
  [λv _=>v=.pointer (some ⟨w.heap.size,0,none⟩),λv _=>v=.bool b,λv _=>v=.pointer (some ⟨w.heap.size+1,0,none⟩),λv _=>v=.bool r,λv _=>v=.bool (!(b==r)),λv _=>v=.pointer (some ⟨w.heap.size,1,none⟩),λv _=>v=.slice A n c,λv _=>v=.pointer (some ⟨w.heap.size+1,1,none⟩),λv _=>v=.slice O Y f,λv N=>Words N v (Aq (val (Aq x.natAbs)*val (Aq y.natAbs))),λv N=>∃b A n c,v=.agg #[.bool b,.slice A n c]/\IsInt N (.bool b) (.slice A n c) (x*y)]
  rfl ZbM ZbM ?stab ?steps ?fin
 case stab=>exact Zio
 case steps=>
  refine .cons ?s0 (.cons ?s1 (.cons ?s2 (.cons ?s3 (.cons ?s4 (.cons ?s5 (.cons ?s6 (.cons ?s7 (.cons ?s8 (.cons ?s9 (.cons ?s10 .nil))))))))))
  case s0=>
   exact Zhk
  case s1=>
   intro N F S E s I p;exact ZgP
  case s2=>
   exact Zhl
  case s3=>
   intro N F S E s I p;exact ZgL
  case s4=>
   intro N F S E s I p;have l:F (.tmp 6)=.bool b:=E.1 _ rfl;exact ZgN
  case s5=>
   exact Zhk
  case s6=>
   intro N F S E s I p;exact ZgM
  case s7=>
   exact Zhl
  case s8=>
   intro N F S E s I p;exact ZgJ
  case s9=>
   intro N F S E s I p;have xc:F (.tmp 11)=.slice A n c:=E.1 _ rfl;have xe:F (.tmp 13)=.slice O Y f:=E.2.1 _ rfl;refine Cl ZeD (Uo _ _ _ _ _ (h.out.2.ext (((((Ext.refl _).alloc _).alloc _).alloc _).drew.trans S)) (a.out.2.ext (((((Ext.refl _).alloc _).alloc _).alloc _).drew.trans S)) i.out V.out) ?_;rintro e K ⟨u,rfl,M,Q⟩;exact⟨u,rfl,Q,M⟩
  case s10=>
   intro N F S E s I p;have e9:F (.tmp 9)=.bool (!(b==r)):=E.1 _ rfl;have xf:=E.2.1 _ rfl;refine Cl ZeJ (DQ (!(b==r)) _ _ _ xf) ?_;exact Zgb
 case fin=>
  intro g N S hF;obtain⟨k,H,j,P,G,o⟩:=hF 10 _ rfl;simp only[List.length_cons,List.length_nil,Nat.reduceAdd,List.drop_succ_cons,List.drop_zero,List.take_succ_cons,List.take_zero,EG,Act.put,List.setIfInBounds_toArray,List.set_cons_succ,List.set_cons_zero,G];clear hF G;replace o:=Ae o;obtain⟨R,d⟩:=S.cells;replace S:=Ae S;go_wp2;refine bodyPost_ret (v:=.agg #[.bool k,.slice H j P]) (by simp[results,Tryz.results286,go_sem,R]) rfl ⟨_,_,_,_,rfl,?_,?_⟩
  .exact Zar
  .exact Zip
theorem SD(h:decide (i<0)=decide (j<0)):IG (decide (i<0)) (i.natAbs+j.natAbs)=i+j:=by
 by_cases E:i<0<;>by_cases O:j<0<;>simp[E,O]at h<;>simp[IG,E]<;>omega
theorem Wx(h:¬decide (i<0)=decide (j<0))(f:j.natAbs<=i.natAbs):IG (decide (i<0)) (i.natAbs-j.natAbs)=i+j:=by
 by_cases E:i<0<;>by_cases O:j<0<;>simp[E,O]at h<;>simp[IG,E]<;>omega
theorem Ww(h:¬decide (i<0)=decide (j<0))(f:i.natAbs<=j.natAbs):IG (decide (j<0)) (j.natAbs-i.natAbs)=i+j:=by
 by_cases E:i<0<;>by_cases O:j<0<;>simp[E,O]at h<;>simp[IG,O]<;>omega
end
end Go.Proofs.YtcikkglcoeedlaaGreat
