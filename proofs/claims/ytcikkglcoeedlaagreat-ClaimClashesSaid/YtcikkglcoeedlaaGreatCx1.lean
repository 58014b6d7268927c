/- Part 1 of the proof of claimClashes_holds. No condition. -/
import Derived.BigQuiet
import Derived.Deep.QuietTactic
import Derived.Deep.RegionHeld3
import Derived.Laws.AppendOwnNone
import Derived.Test.YtcikkglcoeedlaaGreatRows
import Derived.WalkKit
import Derived.WalkLawsBesides
import Derived.WalkSpells
set_option linter.unusedSimpArgs false
set_option linter.unusedVariables false
set_option maxRecDepth 100000
set_option maxHeartbeats 800000
namespace Go.Proofs
structure Zaa(q:Prop):Prop where
 a:q
section
variable{p q:Prop}
theorem ZaW(h:p:=by
 rw [if_neg E]at K
 refine Wa<|Y0<|Aj<|Y1<|Wm<|Wm ?_;refine Wq (BI (ao rfl)) ?_;refine Wq AH ?_;refine Wq BN ?_;refine Wq (CT (ao rfl) (Aa rfl)) ?_;refine Wq (AD (r:=((j.length:Nat):Int)) (ao rfl) (Aa rfl) (Aa rfl) (DU Zbx)) ?_;refine Wq AZ ?_;refine Y0<|Ct<|AWp.region ?_;refine Wq (DN (ao rfl) (Aa rfl)) ?_
 refine CP (ao rfl) ?_;exact(by repeat (first | exact AC (K) | apply Ar | apply PanQ.block | apply PanQ.loop):PanQ _ _) _):p:=h
theorem Zal(h:p:=by
 obtain⟨u,A⟩:=h
 refine⟨?_,usteps_steps d xq (i:=i+1) (λk=>by
  have:=U (k+1);rw[show i+1+k=i+(k+1)by omega,<-this];rfl) (λk=>by
  have:=z (k+1);rw[show i+1+k=i+(k+1)by omega,<-this];rfl) (by simpa using N) A⟩
 intro g w S X B xn xl K Y;have W:L0[i]? = some o:=by have:=U 0;simpa using this.symm
 have C:sh[i]? = some ⟨e,b,[i]⟩:=by have:=z 0;simpa[EO]using this.symm
 have xm:∀j,j∈b->∀G,Fs[j]? = some G->G (g j) w:=λj R G hG=>by
  have xa:∃y,sh[j]? = some y:=by
   cases O:sh[j]? with
   |some y=>exact⟨y,rfl⟩
   |none=>
    exfalso;have E:=R;have r:=(Cn d W).2.1 _ C;simp only[En,Bool.and_eq_true]at r;have M:=List.all_eq_true.1 r.1.1.1.1.1 j E;obtain⟨e',xc,xd⟩:=List.any_eq_true.1 M;have Q:=(Cn d W).1 e' xc;simp only[Bool.or_eq_true,beq_iff_eq]at xd;have xb:=DR C;rw[List.getElem?_eq_none_iff]at O;rcases xd with rfl | xd
    .omega
    .
     have key:∀(n:Nat) (y:Shape) (oy:Oper),sh[n]? = some y->L0[n]? = some oy->∀m∈y.bef,m<n:=by
      intro n
      induction n using Nat.strongRecOn with
      |_ n H=>
       intro y oy O xp m s;have xo:=(Cn d xp).2.1 y O;simp only[En,Bool.and_eq_true]at xo;have V:=List.all_eq_true.1 xo.1.1.1.1.1 m s;obtain⟨Z,xd,xg⟩:=List.any_eq_true.1 V;have xi:=(Cn d xp).1 Z xd;simp only[Bool.or_eq_true,beq_iff_eq]at xg;rcases xg with rfl | xg
       .exact xi
       .cases xf:sh[Z]? with
        |none=>simp[CR,xf]at xg
        |some y2=>
         have xh:Z<L0.length:=Nat.lt_of_lt_of_le (DR xf) (CW d);have:=H Z xi y2 _ xf (List.getElem?_eq_getElem xh) m (by simpa[CR,xf]using xg);omega
     have:=key i _ o C W j R;omega
  obtain⟨y,O⟩:=xa;have:=B _ C j R y (unF G) O (by rw[List.getElem?_map,hG];rfl);rw[xq j y O]at this;exact this
 have xt:OpsKnown Fs S w e:=by
  have xk:∀p∈e,p.2∈b:=λp I=>(Gb d C W I).1;have xr:RC S g e:=xn;clear C xl u xn z N
  induction e with
  |nil=>trivial
  |cons p e H=>
   obtain⟨t,j⟩:=p;obtain⟨q1,q2⟩:=xr;exact⟨λG hG=>by rw[q1];exact xm j (xk (t,j) ZbK) G hG,H (λp I=>xk p (by simp[I])) q2⟩
 have:=u w S X xt xl K Y;have xj:∀v,unF F ([i].map (upd g i v))=F v:=λv=>by funext w;simp[unF,upd]
 cases f:o.guard with
 |none=>
  rw[f]at this;refine⟨λ_=>?_,λq=>by simp[Ep,f]at q⟩;simp only[xj];exact this
 |some jb=>
  obtain⟨j,c⟩:=jb;rw[f]at this
  have xs:j∈b:=by
   have r:=(Cn d W).2.1 _ C;simp only[En,Bool.and_eq_true]at r;have M:=r.1.2;rw[f]at M;simp only[Bool.and_eq_true]at M;simpa using M.1.1
  obtain⟨t1,t2⟩:=this (g j) (λG hG=>xm j xs G hG);refine⟨λq=>?_,λq=>?_⟩
  .simp only[xj]
   refine t1 ?_;simp only[Ep,f]at q;split at q
   .rename_i J xe;rw[xe];congr 1;simpa using q
   .cases q
  .simp only[xj]
   refine t2 λe'=>?_;simp[Ep,f,e']at q):p:=h
theorem ZaQ(h:p:=by
 rintro C _ ⟨k,B,rfl,rfl⟩;by_cases Q:k<l.length
 .have B:=V k Q
  have M:=CG Cj Q;have F:=CB (b++Bl N++(l.take k).flatMap Cj);rw[List.length_append,List.length_append]at F;have e:(Cj (l.getD k 0)).length=4:=rfl;have g:(Cy (Cj (l.getD k 0))).length=4:=rfl;replace M:((l.take k).flatMap Cj).length+(Cj (l.getD k 0)).length<=(l.flatMap Cj).length:=M;obtain⟨w,K⟩:∃w,w=l.getD k 0:=⟨_,rfl⟩;refine Go ?_;refine Wq (BI (ao rfl)) ?_;refine Go ?_;refine Wq (DI (n:=24) (r:=((l.getD k 0/16777216:Nat):Int)) (ao rfl) (ao rfl) ZbA (DY ZbA)) ?_;refine Wq (AD (r:=((l.getD k 0/16777216%256:Nat):Int)) (ao rfl) (Aa rfl) (Aa rfl) Zce) ?_;refine Wm ?_;refine Wq (DI (n:=16) (r:=((l.getD k 0/65536:Nat):Int)) (ao rfl) (ao rfl) ZbA (DY ZbA)) ?_;refine Wq (AD (r:=((l.getD k 0/65536%256:Nat):Int)) (ao rfl) (Aa rfl) (Aa rfl) Zce) ?_;refine Wm ?_;refine Wq (DI (n:=8) (r:=((l.getD k 0/256:Nat):Int)) (ao rfl) (ao rfl) ZbA (DY ZbA)) ?_;refine Wq (AD (r:=((l.getD k 0/256%256:Nat):Int)) (ao rfl) (Aa rfl) (Aa rfl) Zce) ?_;refine Wm ?_;refine Wq (AD (r:=((l.getD k 0%256:Nat):Int)) (ao rfl) (Aa rfl) (Aa rfl) Zce) ?_;(refine CA rfl rfl ?_;(refine De (Aa rfl) (Aa rfl) rfl rfl rfl rfl rfl ?_;(repeat ((first | refine⟨_,As (ao rfl),?_⟩ | refine⟨_,Po rfl,?_⟩);refine⟨_,rfl,?_⟩));refine⟨_,rfl,?_⟩));(refine LP (r2:=Cy (Cj (l.getD k 0))) (ao rfl) rfl rfl (Aa rfl) (Aa rfl) rfl rfl Zeb Zeb rfl Zcd rfl ?_);refine Wq (BI (ao rfl)) ?_;refine Wq AH ?_;refine Fr (ao rfl) (ao rfl) rfl (Aa rfl) ZcZ rfl rfl ?_;refine Go ?_;refine Am (l.length-(k+1)) Zbx ⟨k+1,by omega,rfl,rfl⟩ ?_;exact Ac ZdC (by refine HpLe.cons (Ad rfl) ?_;(refine HpLe.cons (OwLe.row (Lq Zev)) ?_);exact HpLe.cons (Ai rfl)<|HpLe.nil)
 .obtain rfl:k=l.length:=by omega
  refine Go ?_
  first | refine Be RetsA.none rfl ?_ rfl | refine AG RetsA.none rfl ?_ rfl
  exact⟨rfl,by rw[Z,List.take_length,List.append_assoc];rfl⟩):p:=h
theorem Zbb(h:p:=by
 rintro C _ ⟨k,B,rfl,rfl⟩;by_cases Q:k<l.length
 .have B:=V k Q
  have M:=CG Cj Q;have F:=CB (b++Bl N++(l.take k).flatMap Cj);rw[List.length_append,List.length_append]at F;have e:(Cj (l.getD k 0)).length=4:=rfl;have g:(Cy (Cj (l.getD k 0))).length=4:=rfl;replace M:((l.take k).flatMap Cj).length+(Cj (l.getD k 0)).length<=(l.flatMap Cj).length:=M;refine Go ?_;refine Wq (DI (n:=24) (r:=((l.getD k 0/16777216:Nat):Int)) (ao rfl) (ao rfl) ZbA (DY ZbA)) ?_;refine Wq (AD (r:=((l.getD k 0/16777216%256:Nat):Int)) (ao rfl) (Aa rfl) (Aa rfl) Zce) ?_;refine Wm ?_;refine Wq (DI (n:=16) (r:=((l.getD k 0/65536:Nat):Int)) (ao rfl) (ao rfl) ZbA (DY ZbA)) ?_;refine Wq (AD (r:=((l.getD k 0/65536%256:Nat):Int)) (ao rfl) (Aa rfl) (Aa rfl) Zce) ?_;refine Wm ?_;refine Wq (DI (n:=8) (r:=((l.getD k 0/256:Nat):Int)) (ao rfl) (ao rfl) ZbA (DY ZbA)) ?_;refine Wq (AD (r:=((l.getD k 0/256%256:Nat):Int)) (ao rfl) (Aa rfl) (Aa rfl) Zce) ?_;refine Wm ?_;refine Wq (AD (r:=((l.getD k 0%256:Nat):Int)) (ao rfl) (Aa rfl) (Aa rfl) Zce) ?_;(refine CA rfl rfl ?_;(refine De (Aa rfl) (Aa rfl) rfl rfl rfl rfl rfl ?_;(repeat ((first | refine⟨_,As (ao rfl),?_⟩ | refine⟨_,Po rfl,?_⟩);refine⟨_,rfl,?_⟩));refine⟨_,rfl,?_⟩));(refine DP (r2:=Cy (Cj (l.getD k 0))) (ao rfl) rfl rfl (Aa rfl) (Aa rfl) rfl rfl Zeb Zeb rfl ZbB rfl ?_);refine Go ?_;refine Am (l.length-(k+1)) Zbx ⟨k+1,by omega,rfl,rfl⟩ ?_;exact Ac ZbN (by(refine HpLe.cons (OwLe.row (Lq Zev)) ?_);exact HpLe.cons (Ai rfl)<|HpLe.cons (Ad rfl)<|HpLe.nil)
 .obtain rfl:k=l.length:=by omega
  refine Go ?_
  first | refine Be (RetsA.one rfl) rfl ?_ rfl | refine AG (RetsA.one rfl) rfl ?_ rfl
  exact⟨rfl,by rw[Z,List.take_length,List.append_assoc];rfl⟩):p:=h
theorem ZaS(h:p:=by
 obtain rfl:k=L.length:=by omega
 refine Go ?_
 first | refine Be RetsA.none rfl ?_ rfl | refine AG RetsA.none rfl ?_ rfl
 exact⟨rfl,by rw[List.take_length,Bk,<-List.append_assoc];rfl⟩):p:=h
theorem ZaV(h:p:=by
 obtain rfl:k=n:=by omega
 rw[Nat.sub_self]at Y;refine Go ?_;refine FinP.ret (RetsA.d (Ak (ResV.tmp rfl rfl) (D.le.refl _))) rfl ?_ rfl;exact⟨N,c,by rw[K,Y];simp[BQ,BT],O,rfl,rfl⟩):p:=h
theorem Zac(h:p:=by
 intro y N
 cases y with
 |tmp t=>
  show vi.tmps.getD t undef=_
  cases S:un.env.find? (λp=>p.1==t)with
  |some p=>
   have F:p∈un.env:=List.mem_of_find?_eq_some S;have z:p.1=t:=by simpa using List.find?_some S
   obtain⟨u,A,k,G,M⟩:=Gb T C E F;have B:=Dw T K.closed n un q C E R p.2 u;have:=K.a1 p.2 k p.1 A G B M;simp only[Nu,S];rw[z]at this;simp[this]
  |none=>
   simp only[Nu,S];have u:=(Cn T E).2.1 un C;simp only[En,Bool.and_eq_true]at u;have A:=List.all_eq_true.1 u.1.1.2 (.tmp t) (by simpa using N);simp only[Bool.or_eq_true]at A;rcases A with A | A
   .exfalso
    have:t∈un.env.map (·.1):=by simpa using A
    obtain⟨p,F,z⟩:=List.mem_map.1 this;have:=List.find?_eq_none.1 S p F;simp[z]at this
   .have:vi.tmps[t]? = a.tmps[t]?:=by
     refine K.a2 t λj Q i O B V=>?_;have I:=List.all_eq_true.1 A j (List.mem_range.2 i);rw[O]at I;simp[V]at I;rcases I with I | I
     .subst I;rw[l]at B;cases B
     .cases W:sh[j]? with
      |none=>rw[List.getElem?_eq_none_iff]at W;omega
      |some Z=>
       have:=Dw T K.closed j Z Q W O (K.closed j Q O B) n (by simpa[CR,W]using I);rw[l]at this;cases this
    rw[Array.getD_eq_getD_getElem?,Array.getD_eq_getD_getElem?,this]
 |const v=>rfl
 |global b=>rfl
 |func f=>rfl):p:=h
theorem Zbh(h:p:=by
 by_cases J:kind=6
 .subst J
  refine Go ?_;refine Dy 5 ?_;refine CY ?_;refine Go ?_;exact Aq (Rets.of2 (ResV.tmp rfl rfl) (ResV.tmp rfl rfl) (BU (Af ZcT) (Af ZcS)))
 by_cases G:kind=7
 .subst G
  refine Go ?_;refine Dy 7 ?_;refine CY ?_;refine Go ?_;exact Aq (Rets.of2 (ResV.tmp rfl rfl) (ResV.tmp rfl rfl) (BU (Af ZcT) (Af ZcS)))
 by_cases I:kind=8
 .subst I
  refine Go ?_;refine Dy 7 ?_;refine CY ?_;refine Go ?_;exact Aq (Rets.of2 (ResV.tmp rfl rfl) (ResV.tmp rfl rfl) (BU (Af ZcT) (Af ZcS)))
 by_cases z:kind=9
 .subst z
  refine Go ?_;exact Aq (Rets.of2 (ResV.tmp rfl rfl) (ResV.tmp rfl rfl) (BU (Af ZcT) (Af ZcS)))
 by_cases H:kind=13
 .subst H
  refine Go ?_;exact Aq (Rets.of2 (ResV.tmp rfl rfl) (ResV.tmp rfl rfl) (BU (Af ZcT) (Af ZcS)))
 by_cases u:kind=12
 .subst u
  refine Go ?_;refine Dy 3 ?_;refine CY ?_;refine Go ?_;exact Aq (Rets.of2 (ResV.tmp rfl rfl) (ResV.tmp rfl rfl) (BU (Af ZcT) (Af ZcS)))
 refine Go ?_;exact Aq (Rets.of2 (ResV.tmp rfl rfl) (ResV.tmp rfl rfl) (BU (Af ZcT) (Af ZcS)))):p:=h
theorem Zaf(h:p:=by
 have xE:sh.length=L.length:=by
  have:=CW T;rcases Nat.lt_or_ge sh.length L.length with Q | hge
  .have u:=xh sh.length Q
   rw[xa.tail _ (Nat.le_refl _)]at u;cases u
  .omega
 have:=xw g O xa.ext λj y F N hF=>xa.facts j y F N hF (xh j (by have:=DR N;omega));rw[xE]at this
 have xG:EM g (L.take L.length) 0 a=a':=by
  obtain⟨p1,p2,p3,p4⟩:=FD (g:=g) (L.take L.length) 0 a (λj k o c d Z B S s=>by
   simp at Z B;exact Fb T ZdW (by have:=(List.getElem?_eq_some_iff.1 B).1;omega) Z B S s) (λo m d xk=>by
   rw[<-xE]at m;have A:=List.all_eq_true.1 W o m;simp only[xk,decide_eq_true_eq]at A;exact A)
  refine Lt (Array.ext_getElem? λt=>?_) (p2.trans xa.adef.symm);by_cases M:∃(j:Nat) (o:Oper),L[j]? = some o/\o.dst=some t
  .obtain ⟨j,o,Z,xk⟩:=M
   rw[p3 j o t (by simpa using Z) xk,xa.a1 j o t ZdW Z (xh j (List.getElem?_eq_some_iff.1 Z).1) xk];simp
  .rw [p4 t λj o Z e=>M ⟨j,o,by simpa using Z,e⟩,xa.a2 t λj o _ Z _ e=>M ⟨j,o,Z,e⟩]
 rw[xG]at this;exact this):p:=h
theorem Zao(h:p:=by
 obtain⟨k,B,rfl,J⟩:=hrel;by_cases z:k=0
 .subst z
  go_wp2;go_ret;refine⟨_,rfl,?_,Ext.refl _⟩;have u:=H.out.take (k:=0) (Nat.zero_le _);rw[J.out];exact u
 .have Q:0<k:=by omega
  obtain⟨b,o,rfl,E,M⟩:=N.out Zet;have M:=M (k-1) Zet;have S:((k:Int)-1).toNat=k-1:=by omega
  by_cases L:l.getD (k-1) 0=0
  .rw [L]at M
   have L:=Ae L;go_wp2;go_round
   case rel => exact ⟨k - 1, by omega, by go_num, by
    have u:k-1<l.length:=by rw[<-X.out];omega
    have I:l[k-1]=0:=by have:=L.out;simpa[u]using this
    have V:=NY u I;rw[show k-1+1=k by omega]at V;exact J.out.trans V⟩
   case measure=>simp[intOf];omega
  .have W:((l.getD (k-1) 0:Nat):Int)≠0:=by omega
   generalize C:l.getD (k-1) 0=x at *;have C:=Ae C;have Y:((x:Int)==0)=false:=by simpa using L
   go_wp2;go_ret;refine⟨_,rfl,?_,Ext.refl _⟩;have u:=H.out.take (k:=k) Zet;have r:k-1<l.length:=by rw[<-X.out];omega
   have I:l[k-1]≠0:=by have:=C.out;simp[r]at this;omega
   have V:=Kn r I;rw[show k-1+1=k by omega]at V;rw[J.out,V];exact u):p:=h
theorem Zag(h:p:=by
 have key:∀(l:List Bool) (n:Nat),n<=l.length->(∀j,j<n->l[j]? = some true)->(∀j,n<=j->j<l.length->l[j]? = some false)->(l.filter (!·)).length+n=l.length:=by
  intro l
  induction l with
  |nil=>intro n Y _ _;simp at Y;simp[Y]
  |cons b l xJ=>
   intro n Y u A
   cases n with
   |zero=>
    have E:=A 0 (Nat.le_refl _) ZbK;simp at E;subst E;have:=xJ 0 Zbx (λj Z=>by omega) (λj _ Z=>by simpa using A (j+1) Zbx (by simpa using Z));simp at this ⊢;omega
   |succ n=>
    have E:=u 0 Zbx;simp at E;subst E;have:=xJ n (by simpa using Y) (λj Z=>by simpa using u (j+1) Zbx) (λj xF xz=>by simpa using A (j+1) Zbx (by simpa using xz));simp;omega
 have := key U.toList sh.length (by simpa [xa.size] using CW T) (fun j Z => by
   have u:=xl j Z;have xm:j<U.size:=by rw[xa.size];have:=CW T;omega
   simp[xm]at u;simp[xm,u]) (λj xF xz=>by
   have u:=xa.tail j xF;have xm:j<U.size:=by simpa using xz
   simp[xm]at u;simp[xm,u])
 have S:(U.toList.filter (!·)).length=f+1:=r;rw[S]at this;simpa[xa.size]using this):p:=h
theorem Zbe(h:p:=by
 rintro I _ ⟨k,B,rfl,K,rfl⟩;by_cases Q:k<L.length
 .have G:=hF _ (BX (l:=L) Q)
  by_cases u:P (L.getD k default)
  .rw [decide_eq_true u]at G
   have U:∀j,j<k+1->P (L.getD j default):=λj i=>by
    rcases Nat.lt_or_ge j k with h | h
    .exact K j h
    .obtain rfl:j=k:=by omega
     exact u
   refine Go ?_;refine Wq (JD (ao rfl) G ZcM) ?_;refine Go ?_;refine Am (L.length-(k+1)) Zbx ⟨k+1,by omega,rfl,U,rfl⟩ ?_;exact Ac Zcc Zch
  .rw [decide_eq_false u]at G
   rw[decide_eq_false λh:(∀x∈L,P x)=>u (h _ (BX Q))];refine Go ?_;refine Wq (JD (ao rfl) G ZcM) ?_;refine Go ?_;exact Yf
 .obtain rfl:k=L.length:=by omega
  rw[decide_eq_true (show∀x∈L,P x from λx C=>by
   obtain⟨j,i,e⟩:=List.getElem_of_mem C;have:=K j i;rw[List.getD_eq_getElem?_getD,List.getElem?_eq_getElem i,e]at this;exact this)]
  refine Go ?_;exact Yf):p:=h
theorem ZaX(h:p:=by
 have G:=X T c K
 refine Go ?_;refine AJ [0] [] [] (G) (BA rfl) (λE=>(by repeat (first | exact AC (Rd.none (Dk Q Y E)) | apply Ar | apply PanQ.block | apply PanQ.loop):PanQ _ _) _) rfl rfl Zbu Zbt ZbA Zbr Zbw trivial rfl ?_;rintro _ _ ⟨x,M,I,h,rfl,rfl⟩;refine Kr ?_;refine Wq PJ ?_;refine NR (ao rfl) (ao rfl) rfl (Aa rfl) rfl (IJ (λ_=>rfl) rfl Q) rfl ?_;refine Go ?_;refine Am (8-(k+1)) Zbx ⟨k+1,F++[x],M,by omega,rfl,by simp[N],h,Dj Q Y I,rfl⟩ ?_;exact Ac Zcu (by exact HpLe.cons (Ad rfl)<|HpLe.cons (Ai rfl)<|HpLe.cons (OwLe.varD (TI N))<|HpLe.nil)):p:=h
theorem Zbd(h:p:=by
 refine BZ [0] (G) rfl Zby rfl Zbu Zbt ZbA Zbr rfl ?_;rintro _ _ ⟨rfl,rfl⟩;refine Kr ?_;refine Wa<|AWl.nil<|BE<|Yn<|AWp.region<|Wm ?_;refine Wq Eb ?_;refine Wa<|AWl.nil ?_
 refine Am (8-(k+1)) Zbx ⟨k+1,by omega,rfl,rfl⟩ ?_;exact Ac ZbN ZdH):p:=h
theorem ZaP(h:p:=by
 refine AF [0,1] [] [] (G) Zbs rfl rfl Zbu Zbt ZbA Zbr Zbw trivial rfl ?_;rintro _ _ ⟨rfl,rfl⟩;refine Kr ?_;apply AWl.nil
 first | refine Be RetsA.none rfl ?_ rfl | refine AG RetsA.none rfl ?_ rfl
 exact⟨rfl,rfl⟩):p:=h
theorem Zah(h:p:=by
 have xg:∀j o,(L.take sh.length)[j]? = some o->j<sh.length/\L[j]? = some o:=λj o h=>by
  rw[List.getElem?_take]at h;split at h
  .exact ⟨by assumption,h⟩
  .cases h
 obtain⟨p1,p2,p3,p4⟩:=FD (g:=g) (L.take sh.length) 0 a (λj k o c d Z B S s=>by
  obtain⟨xF,xz⟩:=xg j o Z;obtain⟨xD,xB⟩:=xg k c B;exact Fb T xF xD xz xB S s) (λo m d xk=>by
  have A:=List.all_eq_true.1 W o m;simp only[xk,decide_eq_true_eq]at A;exact A)
 refine Lt (Array.ext_getElem? λt=>?_) (p2.trans xa.adef.symm);by_cases M:∃(j:Nat) (o:Oper),j<sh.length/\L[j]? = some o/\o.dst=some t
 .obtain ⟨j,o,xC,Z,xk⟩:=M
  rw[p3 j o t (by rw[List.getElem?_take,if_pos xC];exact Z) xk,xa.a1 j o t xC Z (xl j xC) xk];simp
 .rw [p4 t λj o Z e=>M ⟨j,o,(xg j o Z).1,(xg j o Z).2,e⟩,xa.a2 t λj o xC Z _ e=>M ⟨j,o,xC,Z,e⟩]):p:=h
theorem Zbn(h:p:=by
 by_cases h:n=e
 .by_cases W:d=a
  .by_cases Y:r=O
   .refine Go ?_
    refine CutS.normal false (by simp[sw4,h,W,Y]) ?_;exact Ac ZbP ZbH
   .refine Go ?_
    refine CutS.normal true (by simp[sw4,h,W,Y]) ?_;exact Ac ZbP ZbH
  .refine Go ?_
   refine CutS.normal true (by simp[sw4,h,W]) ?_;exact Ac ZbP ZbH
 .refine Go ?_
  refine CutS.normal true (by simp[sw4,h]) ?_;exact Ac ZbP ZbH):p:=h
theorem ZaU(h:p:=by
 refine BZ [0] (G) rfl Zby rfl Zbu Zbt ZbA Zbr rfl ?_;rintro _ _ ⟨rfl,rfl⟩;refine Kr ?_;refine Go ?_
 first | refine Be (RetsA.one rfl) rfl ?_ rfl | refine AG (RetsA.one rfl) rfl ?_ rfl
 exact⟨rfl,rfl⟩):p:=h
theorem Zbm(h:p:=by
 refine Go ?_
 refine CutS.normal () (by revert q;simp[LR,Rg,A,B]) ?_;exact Ac Zdg ZbH):p:=h
theorem Zav(h:p:=by
 have f:=AK q.out k;have j:=AK P.out k;have I:wr.cell? ⟨w.heap.size,k,none⟩=some (.int .u32 (r.getD k 0:Nat)):=by rw[J.out.2.2.1.cell,Dn Zcb]
 have g:=J.out.2.2.1.frozen k;generalize C:K.getD k 0=x at *;generalize N:M.getD k 0=y at *;replace C:=Ae C;replace N:=Ae N;unfold BB at f j;go_wp2_with fail;refine(GE _ K k x _ (Ha.out.ext J.out.2.2.2.2) C.out).mono ?_;rintro e a ⟨rfl,rfl⟩;go_wp2_with fail;refine(GE _ M k y _ (Hb.out.ext J.out.2.2.2.2) N.out).mono ?_;rintro e a ⟨rfl,rfl⟩;go_wp2;exact⟨J.out.step Q C.out N.out f j v Zcr Zcr,by simp[intOf];omega⟩):p:=h
theorem Zbl(h:p:=by
 refine Go ?_
 refine CutS.ret ?_;exact Aq (Ak (ResV.tmp rfl rfl) (Af (congrArg (λz=>ex (.bool z)) (by revert q;simp[LR,Rg,A,B]<;>(intro q;exact .inl q)))))):p:=h
theorem Zbk(h:p:=by
 by_cases G:kind=7
 .subst G
  refine Go ?_;exact Aq (Ak (ResV.cell rfl rfl (Aa rfl) rfl rfl rfl) (Af ZdG))
 by_cases I:kind=8
 .subst I
  refine Go ?_;exact Aq (Ak (ResV.cell rfl rfl (Aa rfl) rfl rfl rfl) (Af ZdG))
 by_cases z:kind=9
 .subst z
  refine Go ?_;exact Aq (Ak (ResV.cell rfl rfl (Aa rfl) rfl rfl rfl) (Af ZdG))
 by_cases H:kind=13
 .subst H
  refine Go ?_;exact Aq (Ak (ResV.cell rfl rfl (Aa rfl) rfl rfl rfl) (Af ZdG))
 refine Go ?_;exact Aq (Ak (ResV.cell rfl rfl (Aa rfl) rfl rfl rfl) (Af ZdG))):p:=h
theorem ZaA(h:p:=by
 obtain⟨B,C,I,V,m,L⟩:=u;refine⟨⟨by simpa using B,CN C k (Nat.mod_lt _ Cp),by rw[a];exact I.set Zbx _,V.set _ _,?_,λi K=>?_⟩,?_⟩
 .rw [AO, CQ, BS Zbx, AO r, AO v, N, <-L k (Nat.le_refl _), M]
  have e:=Nat.mod_add_div (z+y+O) BB
  have F:BB^k*((z+y+O)%BB)+BB^(k+1)*((z+y+O)/BB)=BB^k*(z+y+O):=by
   rw[Nat.pow_succ,Nat.mul_assoc,<-Nat.mul_add,e]
  rw[Nat.mul_add,Nat.mul_add]at F;omega
 .rw [<-L i Zbx]
  have:k≠i:=by omega
  simp[List.getElem?_set_ne this]
 .have:=Nat.div_lt_of_lt_mul (show z+y+O<BB*2 by omega)
  omega):p:=h
theorem Zad(h:p:=by
 unfold Region.wanted Ep
 cases G:q.guard with
 |none=>rfl
 |some x=>
  obtain⟨j,b⟩:=x;have u:=(Cn T E).2.1 un C;simp only[En,Bool.and_eq_true]at u;have A:=u.1.2;rw[G]at A;simp only[Bool.and_eq_true,decide_eq_true_eq]at A;obtain⟨⟨I,V⟩,m⟩:=A;have B:=Dw T K.closed n un q C E N j (by simpa using I);split at m
  .rename_i k F
   obtain⟨d,M⟩:=Option.isSome_iff_exists.1 m;have:=K.a1 j k d V F B M;unfold yielded;simp only[List.getElem?_toArray,F,Option.bind_some,M,this];cases g j<;>simp
  .cases m):p:=h
theorem Zat(h:p:=by
 go_wp2;refine bodyPost_ret (v:=.agg #[.bool false,.slice A 0 c]) Zdk rfl ⟨_,_,_,_,rfl,⟨?_,?_⟩,?_⟩
 .rw [I.out,HP];rfl
 .rw [I.out,HP]
  show Words _ _ (Ao 0);rw[Br];have M:=(Ty.new w #[Value.bool false,Value.slice none 0 0] 109).ext X;exact(E.out.set M ZbA _).set (M.set _ _) ZbA _
 .exact ((((Ext.refl _).alloc _).trans X).set (Nat.le_refl _) _).set (Nat.le_refl _) _):p:=h
theorem ZaZ(h:p:=by
 cases A with
 |d x=>exact K
 |ptr i off=>exact K
 |own j=>
  show AVr H.length S s (bif Nat.beq j id then .d (ex (S id))else .own j) v
  cases E:Nat.beq j id with
  |true=>
   have e:j=id:=Nat.eq_of_beq_eq_true E;subst e;exact K.2
  |false=>exact K
 |fn f M=>
  show AVr H.length S s (bif M.contains id then .d Cw else .fn f M) v
  cases E:M.contains id with
  |true=>trivial
  |false=>exact K):p:=h
theorem Zbf(h:p:=by
 subst J
 refine Go ?_;refine Dy 5 ?_;refine CY ?_;refine Go ?_;exact Aq (Rets.of2 (ResV.tmp rfl rfl) (ResV.tmp rfl rfl) (BU (Af ZcT) (Af ZcS)))):p:=h
theorem Zbg(h:p:=by
 subst u
 refine Go ?_;refine Dy 3 ?_;refine CY ?_;refine Go ?_;exact Aq (Rets.of2 (ResV.tmp rfl rfl) (ResV.tmp rfl rfl) (BU (Af ZcT) (Af ZcS)))):p:=h
theorem Zam(h:p:=by
 intro g O X p
 rw[u];refine S g O X λj F hF=>?_
 have R:j<(EO 0 l K).length:=by
  rw[u];have:=(List.getElem?_eq_some_iff.1 hF).1;omega
 have N:(EO 0 l K)[j]? = some (EO 0 l K)[j]:=List.getElem?_eq_getElem R;have:=p j _ (unF F) N (by rw[List.getElem?_map,hF];rfl);rw[(Jc N).1]at this;simpa[unF]using this):p:=h
theorem Zab(h:p:=by
 obtain⟨u,A⟩:=h;obtain⟨B,G⟩:=StepsAt.at A;refine⟨by simp[B],λk E I n C=>?_⟩
 cases k with
 |zero=>
  simp at n C;subst n;subst C;exact⟨F,rfl,u⟩
 |succ k=>
  simp at n C;obtain⟨N,hF,b⟩:=G k E I n C;refine⟨N,by simpa using hF,?_⟩;have:i+(k+1)=i+1+k:=by omega
  rw[this];exact b):p:=h
theorem ZaE(h:p:=by
 have M:Ty p (w.heap.size+2) 109:=((EU _ _ ZbK).alloc _).ext Y.out
 have J:Ty p (w.heap.size+3) 109:=(EU _ _ ZbK).ext Y.out;exact(((H.out.set M ZbA _).set (M.set _ _) ZbA _).set ((J.set _ _).set _ _) ZbA _).set (((J.set _ _).set _ _).set _ _) ZbA _):p:=h
theorem ZaF(h:p:=by
 have M:Ty p (w.heap.size+2) 109:=((EU _ _ ZbK).alloc _).ext Y.out
 have J:Ty p (w.heap.size+3) 109:=(EU _ _ ZbK).ext Y.out;exact(((T.out.set M ZbA _).set (M.set _ _) ZbA _).set ((J.set _ _).set _ _) ZbA _).set (((J.set _ _).set _ _).set _ _) ZbA _):p:=h
theorem ZaR(h:p:=by
 obtain rfl:k=8:=by omega
 refine Go ?_
 first | refine Be RetsA.none rfl ?_ rfl | refine AG RetsA.none rfl ?_ rfl
 exact⟨rfl,rfl⟩):p:=h
theorem Zbc(h:p:=by
 first | refine Be (RetsA.one rfl) rfl ?_ rfl | refine AG (RetsA.one rfl) rfl ?_ rfl
 exact⟨rfl,by rw[z];rfl⟩):p:=h
theorem Zax(h:p:=by
 exact ⟨n, 0, List.replicate n 0, Nat.le_refl _, rfl, rfl, j, by simp, BW _, Blk.new _ _ _, by
 have u:K.drop n=[]:=List.drop_eq_nil_of_le Zcl;rw[u];simp[val],(Ext.refl _).alloc _⟩):p:=h
theorem Zar(h:p:=by
 have M:=(Ty.new w #[Value.bool false,Value.slice none 0 0] 109).ext z.out
 have Z:=Z.out;rw[AB,show Ir true (-n).toNat=n by simp[Ir];omega]at Z;exact(Z.set M ZbA _).set (M.set _ _) ZbA _):p:=h
theorem Zas(h:p:=by
 have M:=(Ty.new w #[Value.bool false,Value.slice none 0 0] 109).ext z.out
 have Z:=Z.out;rw[AB,show Ir false n.toNat=n by simp[Ir];omega]at Z;exact(Z.set M ZbA _).set (M.set _ _) ZbA _):p:=h
theorem Zay(h:p:=by
 have u:=J.out.2.2.2.1;simp only[List.drop_zero]at u;rw[u];constructor
 .rw [Nat.mul_comm,Nat.mul_add_div j,Nat.div_eq_of_lt Y,Nat.add_zero]
 .rw [Nat.mul_comm,Nat.mul_add_mod,Nat.mod_eq_of_lt Y]):p:=h
theorem Zbo(h:p:=by
 refine Go ?_;by_cases I:H2 ≥ 0
 .rw [decide_eq_true I]
  by_cases V:L1>H2
  .exact absurd (xd I V) ZbA
  .refine Go ?_
   exact Yf
 .rw [decide_eq_false I]
  refine Go ?_;exact Yf):p:=h
theorem ZaO(h:p:=by
 subst u;refine⟨rfl,λi o K=>?_,rfl,A⟩;have A:B.take (wH b).length=wH (b++e):=A;rw[A]at K
 match i,K with
 |0,K=>cases K;intro H C;rw[List.mem_singleton.1 C];rfl
 |1,K=>cases K;trivial):p:=h
theorem ZaY(h:p:=by
 obtain rfl:k=8:=by omega
 refine Go ?_;refine FinP.ret (RetsA.d (Ak (ResV.cell rfl rfl (Aa rfl) rfl rfl rfl) (D.le.refl _))) rfl ?_ rfl;exact⟨_,c,by rw[M Y];simp[BQ,BT],N,rfl,rfl⟩):p:=h
theorem Zbp(h:p:=by
 refine Go ?_;by_cases I:H2 ≥ 0
 .rw [decide_eq_true I]
  by_cases V:L1>H2
  .refine Go ?_
   exact Yf
  .refine Go ?_
   exact Yf
 .rw [decide_eq_false I]
  refine Go ?_;exact Yf):p:=h
theorem ZaK(h:p:=by
 rw[List.getElem?_append]at K;split at K
 .exact .inl K
 .rename_i xe
  have:i-H.length=0:=by
   have:=BV K;simp at this;omega
  rw[this]at K;exact .inr (Option.some.inj K).symm):p:=h
theorem Zak(h:p:=by
 rcases Nat.lt_or_ge j L.length with h | h
 .simp [h]
 .simp [h]):p:=h
theorem Zap(h:p:=by
 exact⟨n,Nat.le_refl _,rfl,Ext.refl _,λi K=>by
 have u:(Ao x).length<=i:=by rw[<-s.out];exact K
 have C:(Ao y).length<=i:=by rw[<-a.out];exact K
 simp[u,C]⟩):p:=h
theorem ZaI(h:p:=by
 obtain rfl:k=P.length:=by omega
 refine Go ?_;exact Aq (Rets.of2 (ResV.tmp rfl rfl) (ResV.tmp rfl rfl) (BU (Af (by rw[List.take_length];rfl)) (D.le.refl _)))):p:=h
theorem ZaC(h:p:=by
 have:(U.take (k+1)).getD k 0=(J.take (k+1)).getD k 0:=by rw[Z]
 simp only[List.getD_eq_getElem?_getD,List.getElem?_take]at this;simpa using this.symm):p:=h
theorem ZaN(h:p:=by
 rw [getD_set_ne false (λe=>C e.symm)]
 exact⟨.inr,λh=>h.resolve_left C⟩):p:=h
theorem ZaB(h:p:=by
 have:(U.take (k+1)).take k=(J.take (k+1)).take k:=by rw[Z]
 rw[List.take_take,List.take_take,Nat.min_eq_left Zbx]at this;exact this.symm):p:=h
theorem Zaz(h:p:=by
 have:k≠i:=by omega
 simp[List.getElem?_set_ne this]):p:=h
theorem Zau(h:p:=by
 rw [Kx]
 have M:=(Ty.new w #[Value.bool false,Value.slice none 0 0] 109).ext X;exact(E.out.set M ZbA _).set (M.set _ _) ZbA _):p:=h
theorem Zaj(h:p:=by
 rcases Nat.lt_or_ge i sh.length with Q | hge
 .exact Q
 .have:=Jb T xa.size xa.closed hge m xe j0 Zbx
  rw[xr]at this;cases this):p:=h
theorem ZaT(h:p:=by
 have W:=h y (by rw [Y]; simp [Op.operands])
 rw[N]at W;exact⟨_,rfl,.inl (by show some (V y)=_;rw[show V y=_ from W])⟩):p:=h
theorem ZaL(h:p:=by
 rw[List.getElem?_set]at K;split at K
 .split at K
  .exact .inl (Option.some.inj K).symm
  .cases K
 .exact .inr K):p:=h
theorem Zaq(h:p:=by
 subst h
 go_wp2;go_ret;exact⟨by rw[Pq Zdh (λi=>J.out.2 i (Nat.zero_le _))];rfl,J.out.1⟩):p:=h
theorem Zaw(h:p:=by
 obtain rfl:k=8:=by omega
 go_wp2;go_ret;exact⟨rfl,X.out⟩):p:=h
theorem ZaD(h:p:=by
 have:(List.replicate (m-(n+1)+1) 0).drop (m-(n+1)+1)=[]:=List.drop_eq_nil_of_le ZbK
 rw[this];simp[val]):p:=h
theorem ZaJ(h:p:=by
 obtain rfl:k=P.length:=by omega
 refine Go ?_;exact Aq (Ak (ResV.tmp rfl rfl) (Af Zeg))):p:=h
theorem Zbj(h:p:=by
 subst J
 refine Go ?_;exact Aq (Ak (ResV.cell rfl rfl (Aa rfl) rfl rfl rfl) (Af ZdG))):p:=h
theorem Zae(h:p:=by
 cases J:U.getD j false with
 |true=>rfl
 |false=>have:=Pd (by rw[xa.size];exact Z) J;omega):p:=h
theorem Zbi(h:p:=by
 refine Go ?_
 exact Aq (Ak (ResV.cell rfl rfl (Aa rfl) rfl rfl rfl) (Af Zcw))):p:=h
theorem ZaM(h:p:=by
 cases h:Nat.blt (vb+1000000) 1000000 with
 |false=>rfl
 |true=>rw[Nat.blt_eq]at h;omega):p:=h
theorem Zba(h:p:=by
 have h:(!Nat.beq i n)=true:=h;have h:Nat.beq i n=false:=by simpa using h
 simp[RG,h]):p:=h
theorem ZaG(h:p:=by
 go_enter Tryz.func218,Tryz.ntmps218
 go_wp2;go_ret;exact⟨by simp[a.out],I.out⟩):p:=h
theorem Zan(h:p:=by
 rcases List.mem_cons.1 hF with rfl | hF
 .exact h.1
 .exact StabAll.mem h.2 F hF):p:=h
theorem Zai(h:p:=by
 cases J:U.getD j false with
 |true=>rfl
 |false=>exact absurd ⟨j,Z,J⟩ xp):p:=h
theorem ZaH(h:p:=by
 go_wp2
 go_ret;exact⟨by rw[Z.out];rfl,X.out.trans (I.out.trans z.out)⟩):p:=h
theorem Zbq(h:p:=by
 first | refine Be RetsA.none rfl ?_ rfl | refine AG RetsA.none rfl ?_ rfl
 exact⟨rfl,rfl⟩):p:=h
theorem Zbr(h:p:=by repeat (first | exact SelR.nil | refine SelR.var rfl ?_ | refine SelR.obj rfl ?_ | refine SelR.row rfl ?_ | refine SelR.varA rfl rfl rfl ?_)):p:=h
theorem Zbs(h:p:=by first | exact Or.inl rfl | exact Or.inr ⟨by decide,rfl,by repeat (first | exact AvoidR.nil | refine Ah rfl ?_ | refine AvoidR.dead ?_ | refine AvoidR.row ?_ | refine AvoidR.obj ?_ | refine AvoidR.varD ?_ | refine AvoidR.varA rfl ?_ | refine AvoidR.pin rfl ?_)⟩):p:=h
theorem Zbt(h:p:=by repeat (first | exact ArgsC.nil | refine ArgsC.d rfl (D.le.refl _) ?_ | refine ArgsC.av rfl rfl ?_)):p:=h
theorem Zbu(h:p:=by first | exact .inl ⟨rfl,rfl,rfl⟩ | exact .inr (.inr ⟨rfl,rfl,rfl⟩)):p:=h
theorem Zbv{α:Sort _}{r:α->Prop}(h:∀x,r x:=by intro _;first | exact Bb (ah rfl) | exact Bo (ah rfl) (Aa rfl) rfl (Aa rfl) rfl rfl | exact Bg | exact AM | (apply AI;refine AP (Aa rfl) rfl rfl rfl ?_;(repeat ((first | refine⟨_,As (ah rfl),?_⟩ | refine⟨_,Po rfl,?_⟩);refine⟨_,rfl,?_⟩));refine⟨_,rfl,?_⟩;rfl)):∀x,r x:=h
theorem Zbw(h:p:=by repeat (first | exact trivial | refine⟨⟨_,_,rfl⟩,?_⟩)):p:=h
theorem Zbx(h:p:=by omega):p:=h
theorem Zby(h:p:=by repeat (first | exact AvoidR.nil | refine Ah rfl ?_ | refine AvoidR.dead ?_ | refine AvoidR.row ?_ | refine AvoidR.obj ?_ | refine AvoidR.varD ?_ | refine AvoidR.varA rfl ?_ | refine AvoidR.pin rfl ?_)):p:=h
theorem Zbz(h:p:=by kernel_rfl):p:=h
theorem ZbA(h:p:=by decide):p:=h
theorem ZbB(h:p:=by first | ((repeat (first | exact PlainHp.nil | refine PlainHp.var ?_ | refine PlainHp.row ?_ | refine PlainHp.dead ?_ | refine PlainHp.obj ?_ | refine PlainHp.pin rfl ?_ | refine PlainHp.varA rfl ?_));done) | fail):p:=h
theorem ZbC(h:p:=by first | omega | (simp only[List.length_append];omega)):p:=h
theorem ZbD(h:p:=by exact HpLe.cons (Ad rfl)<|Yr<|HpLe.cons (Ai rfl)<|HpLe.cons (Ad rfl)<|HpLe.nil):p:=h
theorem ZbE(h:p:=by repeat (first | exact DsLe.nil | refine DsLe.cons (D.le.refl _) ?_ | refine DsLe.cons (Af (by first | rfl | (congr 2;omega))) ?_ | refine DsLe.cons Bd ?_)):p:=h
theorem ZbF(h:p:=by first | (simp only[Cq,List.length_cons,List.length_nil];omega) | (simp[Cq];done) | (simp[Cq];omega)):p:=h
theorem ZbG(h:p:=by exact Yp<|FrLe.cons rfl (BD rfl)<|FrLe.cons rfl (AVle.own rfl)<|Yd<|Yd<|FrLe.nil):p:=h
theorem ZbH(h:p:=by exact HpLe.cons (OwLe.dead)<|HpLe.cons (OwLe.dead)<|HpLe.nil):p:=h
theorem ZbI(h:p:=by first | omega | (simp;omega)):p:=h
theorem ZbJ(h:p:=by exact Yp<|FrLe.cons rfl (BD rfl)<|Yd<|Yd<|Yd<|FrLe.nil):p:=h
theorem ZbK(h:p:=by simp):p:=h
theorem ZbL(h:p:=by first | ((repeat (first | exact ArgsLe.nil | refine ArgsLe.cons rfl (D.le.refl _) ?_ | refine ArgsLe.cons rfl Bd ?_));done) | fail):p:=h
theorem ZbM(h:p:=by simp only[List.length_append];omega):p:=h
theorem ZbN(h:p:=by exact FrLe.cons rfl (AVle.own rfl)<|Yp<|Yd<|FrLe.nil):p:=h
theorem ZbO(h:p:=by exact Yp<|Yp<|FrLe.nil):p:=h
theorem ZbP(h:p:=by exact Yd<|Yd<|Yd<|Yd<|Yd<|FrLe.nil):p:=h
theorem ZbQ(h:p:=by exact FrLe.cons rfl (AVle.own rfl)<|Yd<|Yd<|FrLe.nil):p:=h
theorem ZbR(h:p:=by repeat (first | exact CellsLe.nil | refine CellsLe.cons (AVle.d rfl) ?_ | refine CellsLe.cons (AVle.le Bd) ?_)):p:=h
theorem ZbS(h:p:=by exact HpLe.cons (Ad rfl)<|HpLe.cons (Ai rfl)<|Yr<|HpLe.nil):p:=h
theorem ZbT(h:p:=by exact Yp<|Yp<|Yd<|Yd<|Yd<|FrLe.nil):p:=h
theorem ZbV(h:p:=by exact HpLe.cons (Ad rfl)<|HpLe.cons (OwLe.row ZcX)<|HpLe.cons (Ai rfl)<|HpLe.nil):p:=h
theorem ZbW(h:p:=by simp only[Int.natAbs_natCast];omega):p:=h
theorem ZbX(h:p:=by rw[h];omega):p:=h
theorem ZbY(h:p:=by exact Yd<|Yd<|FrLe.cons rfl (AVle.own rfl)<|Yd<|Yd<|FrLe.nil):p:=h
theorem ZbZ(h:p:=by exact HpLe.cons (Ad rfl)<|HpLe.cons (OwLe.row (by simp[CU]))<|HpLe.cons (Ai rfl)<|HpLe.nil):p:=h
theorem Zca(h:p:=by exact Yp<|Yd<|Yd<|FrLe.nil):p:=h
theorem Zcb(h:p:=by rw[J.out.1];omega):p:=h
theorem Zcc(h:p:=by exact Yd<|Yd<|Yd<|Yd<|FrLe.nil):p:=h
theorem Zcd(h:p:=by repeat (first | exact DownR.nil | (apply DownR.varA;exact rfl) | apply DownR.row | apply DownR.obj | apply DownR.dead | (apply DownR.pin;exact rfl))):p:=h
theorem Zce(h:p:=by rw[IntKind.wrap_u8];omega):p:=h
theorem Zcf(h:p:=by exact FrLe.cons rfl (AVle.own rfl)<|Yd<|Yd<|Yd<|FrLe.nil):p:=h
theorem Zcg(h:p:=by first | exact EV rfl | exact Fq | exact One.ep):p:=h
theorem Zch(h:p:=by exact HpLe.nil):p:=h
theorem Zci(h:p:=by assumption):p:=h
theorem Zcj(h:p:=by refine CSteps.s ?_;refine DV ?_;refine DV ?_;refine DV ?_;refine DV ?_;refine DV ?_;refine DV ?_;refine LS (g0) ?_;refine DV ?_;refine DV ?_;refine DV ?_;refine DV ?_;refine DV ?_;refine DV ?_;refine LS (Y) ?_;refine CSteps.s ?_;exact CSteps.nil):p:=h
theorem Zck(h:p:=by simpa using B):p:=h
theorem Zcl(h:p:=by rw[<-s.out];omega):p:=h
theorem Zcm(h:p:=by simp<;>omega):p:=h
theorem Zcn(h:p:=by exact Yv<|Yv<|HpLe.nil):p:=h
theorem Zco(h:p:=by dsimp only;omega):p:=h
theorem Zcp(h:p:=by simp[Op.operands]):p:=h
theorem Zcq(h:p:=by rw[K];exact Dk Q Y M):p:=h
theorem Zcr(h:p:=by rw[Bn];omega):p:=h
theorem Zcs(h:p:=by exact HpLe.cons (OwLe.row (by simp[CU]))<|HpLe.cons (Ai rfl)<|HpLe.cons (Ad rfl)<|HpLe.nil):p:=h
theorem Zct(h:p:=by exact Yr<|HpLe.cons (Ai rfl)<|HpLe.cons (Ad rfl)<|HpLe.nil):p:=h
theorem Zcu(h:p:=by exact Yp<|Yp<|Yd<|FrLe.nil):p:=h
theorem Zcv(h:p:=by simp[Op.operands,Call.operands]):p:=h
theorem Zcw(h:p:=by simp[EA, *]):p:=h
theorem Zcx(h:p:=by exact Yp<|Yp<|Yp<|Yd<|FrLe.nil):p:=h
theorem Zcy(h:p:=by refine HpLe.cons (Ad rfl) ?_;refine HpLe.cons (Ai rfl) ?_;refine HpLe.cons (Ad rfl) ?_;(refine HpLe.cons (OwLe.varD (by rw[JP S];rfl)) ?_);exact HpLe.nil):p:=h
theorem Zcz(h:p:=by refine HpLe.cons (OwLe.cells (CellsLe.cons (AVle.int Zbx) (CellsLe.cons (AVle.int Zbx) (CellsLe.cons (AVle.int Zbx) CellsLe.nil)))) ?_;refine HpLe.cons (OwLe.cells (CellsLe.cons (AVle.int Zbx) (CellsLe.cons (AVle.int Zbx) (CellsLe.cons (AVle.int Zbx) CellsLe.nil)))) ?_;exact HpLe.nil):p:=h
theorem ZcA(h:p:=by exact HpLe.cons (Ad rfl)<|HpLe.cons (Ai rfl)<|HpLe.cons (OwLe.row ZbK)<|HpLe.nil):p:=h
theorem ZcB(h:p:=by exact HpLe.cons (Ad rfl)<|HpLe.cons (OwLe.row ZbK)<|HpLe.cons (Ai rfl)<|HpLe.nil):p:=h
theorem ZcC(h:p:=by rw[DU Zbx];omega):p:=h
theorem ZcD(h:p:=by exact HpLe.cons (OwLe.row ZbK)<|HpLe.cons (Ai rfl)<|HpLe.nil):p:=h
theorem ZcE(h:p:=by rw[Int.tdiv_eq_ediv_of_nonneg Zbx,DU Zbx];omega):p:=h
theorem ZcF(h:p:=by exact HpLe.cons (OwLe.row ZbK)<|HpLe.cons (Ai rfl)<|HpLe.cons (Ad rfl)<|HpLe.nil):p:=h
theorem ZcG(h:p:=by rw[Int.tmod_eq_emod_of_nonneg Zbx];omega):p:=h
theorem ZcH(h:p:=by exact Yp<|FrLe.cons rfl (AVle.own rfl)<|FrLe.nil):p:=h
theorem ZcI(h:p:=by refine De (Aa rfl) (Aa rfl) rfl rfl rfl rfl rfl ?_;refine⟨_,PartOk.one rfl (by exact EV rfl),?_⟩;refine⟨_,rfl,?_⟩;refine⟨_,rfl,?_⟩;rfl):p:=h
theorem ZcJ(h:p:=by rw[O];simp[Op.operands]):p:=h
theorem ZcK(h:p:=by simpa using h):p:=h
theorem ZcL(h:p:=by exact HpLe.cons (OwLe.row (by simp[CU]))<|HpLe.cons (Ai rfl)<|HpLe.nil):p:=h
theorem ZcM(h:p:=by exact ArgsLe.cons rfl (D.le.refl _) ArgsLe.nil):p:=h
theorem ZcN(h:p:=by apply Yv;apply Yv;(refine HpLe.cons (OwLe.row ((GV Nz _ ⟨c*(Cm P k).c,Cs m (Cm P k).m⟩).trans (by rw[<-I];simp[Vc]))) ?_);exact HpLe.nil):p:=h
theorem ZcO(h:p:=by repeat (first | exact FrLe.nil | refine Yp ?_ | refine Yd ?_)):p:=h
theorem ZcP(h:p:=by exact Yd<|Yd<|Yd<|FrLe.cons rfl (AVle.own rfl)<|Yd<|FrLe.nil):p:=h
theorem ZcQ(h:p:=by rw[L];exact ZgC):p:=h
theorem ZcR(h:p:=by exact HpLe.cons (Ad rfl)<|HpLe.cons (Ai rfl)<|HpLe.cons (Ad rfl)<|HpLe.cons (Ad rfl)<|HpLe.cons (OwLe.obj rfl)<|HpLe.nil):p:=h
theorem ZcS(h:p:=by simp[Fi, *]):p:=h
theorem ZcT(h:p:=by simp[Gr, *]):p:=h
theorem ZcU(h:p:=by refine HpLe.cons (Ad rfl) ?_;(refine HpLe.cons (OwLe.row (by rw[I];simp)) ?_);exact HpLe.cons (Ai rfl)<|HpLe.nil):p:=h
theorem ZcV(h:p:=by first | exact Nat.zero_lt_succ _ | exact Nat.le_refl _):p:=h
theorem ZcW(h:p:=by rw[l.out.1];omega):p:=h
theorem ZcX(h:p:=by rw[DC,<-List.append_assoc]):p:=h
theorem ZcY(h:p:=by exact Yd<|Yd<|Yp<|Yp<|Yd<|FrLe.nil):p:=h
theorem ZcZ(h:p:=by first | exact Fq | exact One.own rfl | exact One.ep):p:=h
theorem Zda(h:p:=by rw[J.out.2.2.2.1];omega):p:=h
theorem Zdb(h:p:=by exact HpLe.cons (OwLe.varD rfl) (HpLe.cons (OwLe.varD rfl) (HpLe.cons (Ai rfl) HpLe.nil))):p:=h
theorem Zdc(h:p:=by refine HpLe.cons (OwLe.cells ZbR) ?_;refine HpLe.cons (OwLe.cells ZbR) ?_;exact HpLe.nil):p:=h
theorem Zdd(h:p:=by rw[List.length_append];omega):p:=h
theorem Zde(h:p:=by repeat (first | exact HpLe.nil | apply Yv)):p:=h
theorem Zdf(h:p:=by rintro _ _ ⟨x,q,h,_⟩;rw[A]at h;cases h):p:=h
theorem Zdg(h:p:=by exact Yd<|Yd<|Yd<|FrLe.nil):p:=h
theorem Zdh(h:p:=by rw[<-s.out,<-a.out]):p:=h
theorem Zdi(h:p:=by exact Yd<|Yd<|Yp<|Yd<|Yd<|Yd<|FrLe.nil):p:=h
theorem Zdj(h:p:=by exact Yp<|Yp<|Yp<|Yd<|Yd<|Yd<|FrLe.nil):p:=h
theorem Zdk(h:p:=by simp[results,Tryz.results239,go_sem,F]):p:=h
theorem Zdl(h:p:=by exact Yd<|Yd<|FrLe.cons rfl (AVle.int (by first | rfl | omega))<|Yd<|FrLe.nil):p:=h
theorem Zdm(h:p:=by exact Yr<|HpLe.nil):p:=h
theorem Zdn(h:p:=by exact Yv<|HpLe.nil):p:=h
theorem Zdo(h:p:=by show 7*i<=64;omega):p:=h
theorem Zdp(h:p:=by exact h):p:=h
theorem Zdq(h:p:=by exact FrLe.cons rfl (AVle.ptr rfl) (FrLe.cons rfl (AVle.ptr rfl) FrLe.nil)):p:=h
theorem Zdr(h:p:=by rw[C];simp only[Op.operands,List.mem_toArray];exact List.mem_map_of_mem R):p:=h
theorem Zds(h:p:=by rw[<-M.out];omega):p:=h
theorem Zdt(h:p:=by rw[E];simp[Op.operands]):p:=h
theorem Zdu(h:p:=by cases p<;>rfl):p:=h
theorem Zdv(h:p:=by simpa using C):p:=h
theorem Zdw(h:p:=by show 0<v.getD (m+1) 0;have:v.getD (m+2-1) 0=v.getD (m+1) 0:=rfl;omega):p:=h
theorem Zdx(h:p:=by exact Yd<|Yd<|Yd<|Yd<|Yd<|FrLe.cons rfl (AVle.own rfl)<|Yd<|FrLe.nil):p:=h
theorem Zdy(h:p:=by exact Yp<|Yp<|Yd<|FrLe.cons rfl (AVle.own rfl)<|Yd<|Yd<|Yd<|FrLe.nil):p:=h
theorem Zdz(h:p:=by refine HpLe.cons (OwLe.row (GV Nz R (Cm P i))) ?_;exact HpLe.nil):p:=h
theorem ZdA(h:p:=by refine HpLe.cons (OwLe.row (GV Nz R (Cm Q k))) ?_;exact HpLe.nil):p:=h
theorem ZdB(h:p:=by simp only[BB,Nat.pow_one];omega):p:=h
theorem ZdC(h:p:=by exact Yp<|Yd<|Yd<|Yd<|FrLe.nil):p:=h
theorem ZdD(h:p:=by exact Yd<|Yp<|Yp<|FrLe.cons rfl (AVle.own rfl)<|Yd<|FrLe.nil):p:=h
theorem ZdE(h:p:=by simpa using F):p:=h
theorem ZdF(h:p:=by exact FrLe.cons rfl (AVle.own rfl)<|Yp<|Yd<|Yd<|FrLe.nil):p:=h
theorem ZdG(h:p:=by simp[Gp, *]):p:=h
theorem ZdH(h:p:=by exact HpLe.cons (OwLe.row ZcX)<|HpLe.cons (Ai rfl)<|HpLe.cons (Ad rfl)<|HpLe.nil):p:=h
theorem ZdI(h:p:=by exact HpLe.cons (OwLe.row ZcX)<|HpLe.cons (Ai rfl)<|HpLe.nil):p:=h
theorem ZdJ(h:p:=by rw[Nat.eq_of_beq_eq_true O,show m+1-m-1=0 by omega];rfl):p:=h
theorem ZdK(h:p:=by exact HpLe.cons (Ad rfl)<|HpLe.cons (Ai rfl)<|HpLe.nil):p:=h
theorem ZdL(h:p:=by rw[<-a.out];omega):p:=h
theorem ZdM(h:p:=by rw[<-p.out];omega):p:=h
theorem ZdN(h:p:=by rw[IntKind.wrap_i64];omega):p:=h
theorem ZdO(h:p:=by simpa[Nat.blt_eq]using y):p:=h
theorem ZdP(h:p:=by exact FrLe.cons rfl (AVle.own rfl)<|Yd<|FrLe.nil):p:=h
theorem ZdQ(h:p:=by rw[Bn];exact xf):p:=h
theorem ZdR(h:p:=by simp only[maxLen];omega):p:=h
theorem ZdS(h:p:=by rw[show rgP kind u p v R=false from q];simp[t]):p:=h
theorem ZdT(h:p:=by simp[execOp,e6,go_sem]):p:=h
theorem ZdU(h:p:=by simp[execOp,e7,go_sem]):p:=h
theorem ZdV(h:p:=by simp[execOp,e8,go_sem]):p:=h
theorem ZdW(h:p:=by have:=(List.getElem?_eq_some_iff.1 Z).1;omega):p:=h
theorem ZdX(h:p:=by rw[Nat.blt_eq,Nat.eq_of_beq_eq_true O];omega):p:=h
theorem ZdY(h:p:=by simp[execOp,I,go_sem]):p:=h
theorem ZdZ(h:p:=by simp[execOp,U,go_sem]):p:=h
theorem Zea(h:p:=by simp[execOp,d,go_sem]):p:=h
theorem Zeb(h:p:=by rw[F,g];omega):p:=h
theorem Zec(h:p:=by simpa using A):p:=h
theorem Zed(h:p:=by simpa using G):p:=h
theorem Zee(h:p:=by simpa using K):p:=h
theorem Zef(h:p:=by simpa using n):p:=h
theorem Zeg(h:p:=by rw[List.take_length]):p:=h
theorem Zeh(h:p:=by rw[Nat.add_assoc,Nat.add_comm 1];exact G):p:=h
theorem Zei(h:p:=by exact Yd<|Yd<|Yd<|Yd<|Yd<|Yd<|FrLe.nil):p:=h
theorem Zej(h:p:=by exact Yd<|Yp<|Yp<|Yd<|Yd<|Yd<|FrLe.nil):p:=h
theorem Zek(h:p:=by simp[results,Tryz.results139,go_sem,F]):p:=h
theorem Zel(h:p:=by simp[results,Tryz.results141,go_sem,F]):p:=h
theorem Zem(h:p:=by simp[results,Tryz.results236,go_sem,F]):p:=h
theorem Zen(h:p:=by simp[results,Tryz.results290,go_sem,T]):p:=h
theorem Zeo(h:p:=by simp[results,Tryz.results291,go_sem,L]):p:=h
theorem Zep(h:p:=by rw[e]):p:=h
theorem Zeq(h:p:=by rw[B];simp[Op.operands,Call.operands]):p:=h
theorem Zer(h:p:=by show m<=(f.hp++[_]).length;exact ZgC):p:=h
theorem Zes(h:p:=by rw[<-U.out];omega):p:=h
theorem Zet(h:p:=by rw[<-X.out];omega):p:=h
theorem Zeu(h:p:=by rw[Y];simp[BQ,BT]):p:=h
theorem Zev(h:p:=by rw[BM Cj Q,<-List.append_assoc];rfl):p:=h
theorem Zew(k:q)(h:Zaa q->p:=by intro qq;refine Go ?_;refine AJ [0] [] [] (G) (BA rfl) (λM=>(by repeat (first | exact AC (FR M) | apply Ar | apply PanQ.block | apply PanQ.loop):PanQ _ _) _) rfl rfl Zbu Zbt ZbA Zbr Zbw trivial rfl ?_;exact qq.a):p:=h ⟨k⟩
theorem Zex(k:q)(h:Zaa q->p:=by intro qq;refine Go ?_;refine AJ [0] [0] [] (G) (BA rfl) (λM=>(by repeat (first | exact AC Zcq | apply Ar | apply PanQ.block | apply PanQ.loop):PanQ _ _) _) rfl rfl Zbu Zbt ZbA Zbr Zbw trivial rfl ?_;exact qq.a):p:=h ⟨k⟩
theorem Zey(k:q)(h:Zaa q->p:=by intro qq;refine Go ?_;refine FinP.ret (RetsA.d (Ak (ResV.cell rfl rfl (Aa rfl) rfl rfl rfl) (D.le.refl _))) rfl ?_ rfl;exact qq.a):p:=h ⟨k⟩
theorem ZeA(k:q)(h:Zaa q->p:=by intro qq;refine Go ?_;refine Am (L.length-(k+1)) Zbx ⟨k+1,by omega,rfl,rfl⟩ ?_;exact qq.a):p:=h ⟨k⟩
theorem ZeC(h:p:=by refine Go ?_;exact Aq (Ak (ResV.cell rfl rfl (Aa rfl) rfl rfl rfl) (Cz ZbE))):p:=h
theorem ZeD(k:q)(h:Zaa q->p:=by intro qq;refine Go ?_;refine AJ [0] [] [] (G) (BA rfl) (λY=>(by repeat (first | exact AC (Rd.none Y) | apply Ar | apply PanQ.block | apply PanQ.loop):PanQ _ _) _) rfl rfl Zbu Zbt ZbA Zbr Zbw trivial rfl ?_;exact qq.a):p:=h ⟨k⟩
theorem ZeE(h:p:=by refine Go ?_;exact Yf):p:=h
theorem ZeF(k:q)(h:Zaa q->p:=by intro qq;refine Wq (DA (r:=((k+1:Nat):Int)) (ao rfl) (ao rfl) ZcC) ?_;refine Go ?_;exact qq.a):p:=h ⟨k⟩
theorem ZeG(k:q)(h:Zaa q->p:=by intro qq;refine Go ?_;refine AF [0,1] [] [] (g) Zbs rfl rfl Zbu Zbt ZbA Zbr Zbw trivial rfl ?_;exact qq.a):p:=h ⟨k⟩
theorem ZeH(h:p:=by refine Go ?_;exact Aq (Ak (ResV.cell rfl rfl (Aa rfl) rfl rfl rfl) (D.le.refl _))):p:=h
theorem ZeK(k:q)(h:Zaa q->p:=by intro qq;refine Go ?_;refine AF [0,1] [] [] (u) Zbs rfl rfl Zbu Zbt ZbA Zbr Zbw trivial rfl ?_;exact qq.a):p:=h ⟨k⟩
theorem ZeL(k:q)(h:Zaa q->p:=by intro qq;refine Kr ?_;refine Go ?_;exact qq.a):p:=h ⟨k⟩
theorem ZeM(k:q)(h:Zaa q->p:=by intro qq;refine Kr ?_;refine Wq (CF (ao rfl) (Aa rfl) (Aa rfl) rfl rfl rfl rfl rfl) ?_;exact qq.a):p:=h ⟨k⟩
theorem ZeN(h:p:=by refine Go ?_;exact Aq (Ak (ResV.cell rfl rfl (Aa rfl) rfl rfl rfl) (Af Zcw))):p:=h
theorem ZeO(k:q)(h:Zaa q->p:=by intro qq;refine CY ?_;refine Go ?_;exact qq.a):p:=h ⟨k⟩
theorem ZeQ(h:p:=by refine Am (s.length-(k+1)) Zbx ⟨k+1,by omega,rfl,rfl⟩ ?_;exact Ac ZbT Zcz):p:=h
theorem ZeS(h:p:=by rw[List.getD_eq_getElem?_getD,List.getElem?_eq_getElem h];exact List.getElem_mem h):p:=h
theorem ZeT(k:q)(h:Zaa q->p:=by intro qq;refine Go ?_;refine Am (P.length-(k+1)) Zbx ⟨k+1,by omega,rfl,rfl⟩ ?_;exact qq.a):p:=h ⟨k⟩
theorem ZeU(k:q)(h:Zaa q->p:=by intro qq;refine Go ?_;refine AF [0,1] [] [] (A) Zbs rfl rfl Zbu Zbt ZbA Zbr Zbw trivial rfl ?_;exact qq.a):p:=h ⟨k⟩
theorem ZeV(h:p:=by rw[Array.getD_eq_getD_getElem?,Array.getElem?_append_left ZgC];simp):p:=h
theorem ZeW(h:p:=by have A:=xN.out _ _ W.out.2.2 (by rw[Bn];exact xd.out);exact⟨q-1,by go_num,by have:=A.1;rw[Bn]at this;exact this,xe.out _ _ W.out.2.2 W.out.2.1 A.1 A.2,H.out.1,H.out.2.drewN _⟩):p:=h
theorem ZeX(h:p:=by rw[J.out.1]at this;exact this):p:=h
theorem ZeY(h:p:=by have A:=xx.out _ _ W.out.2.2 (by rw[Bn];exact N.out);exact⟨q-1,by go_num,by have:=A.1;rw[Bn]at this;exact this,O.out _ _ W.out.2.2 W.out.2.1 A.1 A.2,G.out.drewN _⟩):p:=h
theorem ZeZ(h:p:=by go_wp2;exact⟨⟨q-1,r+U,by go_num,by go_num,by have:=xd.out;omega,by have:=K.out;omega,⟨W.out.2.2,W.out.2.1⟩,H.out.1,H.out.2.drewN _⟩,by simp[intOf];omega⟩):p:=h
theorem Zfa(h:p:=by have U:j (.tmp 3)=.pointer (some ⟨w.heap.size+1,0,none⟩):=t 3 ZbA;exact AA ZdZ rfl):p:=h
theorem Zfb(k:q)(h:Zaa q->p:=by intro qq;refine Go ?_;refine AJ [0] [] [] (G) (BA rfl) (λF=>(by repeat (first | exact AC (Rd.none F) | apply Ar | apply PanQ.block | apply PanQ.loop):PanQ _ _) _) rfl rfl Zbu Zbt ZbA Zbr Zbw trivial rfl ?_;exact qq.a):p:=h ⟨k⟩
theorem Zfc(h:p:=by go_wp2;exact⟨⟨q-1,r+K,by go_num,by go_num,by have:=N.out;omega,by have:=z.out;omega,⟨W.out.2.2,W.out.2.1⟩,G.out.drewN _⟩,by simp[intOf];omega⟩):p:=h
theorem Zff(h:p:=by have heq:(Op.equalIn Op.maxDepth t (.bool p) (.bool ul)).run P w=.ok (p==ul) w:=run_equalIn_bool w 9999 t p ul g;simp[eqGuard,binOp,Op.equal,heq]):p:=h
theorem Zfg(h:p:=by have Z:Hid (((r:Int)*4294967296+x)/d%4294967296=((r*4294967296+x)/d:Nat)/\((r:Int)*4294967296+x)%d=((r*4294967296+x)%d:Nat)):=VO Y V l;go_wp2;refine⟨⟨k,(r*4294967296+x)%d,_,by omega,rfl,by rw[Z.out.2],Nat.mod_lt _ j,J.out.step B s.out.symm C.out j Y l V Z.out.1⟩,by simp[intOf]⟩):p:=h
theorem Zfh(h:p:=by refine Go ?_;exact Aq (UD (ResV.cell rfl rfl (Aa rfl) rfl rfl rfl) (ResV.cell rfl rfl (Aa rfl) rfl rfl rfl) (ResV.tmp rfl rfl) (D.le.refl _))):p:=h
theorem Zfi(h:p:=by have heq:(Op.equalIn Op.maxDepth 112 (.agg (c8 a)) (.agg (c8 b))).run Tryz.prog w=.ok (Na a b) w:=Hv a b w;simp[eqGuard,binOp,Op.equal,heq]):p:=h
theorem Zfj(h:p:=by simp[IntKind.wrap,IntKind.bits,IntKind.signed];omega):p:=h
theorem Zfm(k:q)(h:Zaa q->p:=by intro qq;refine Go ?_;refine Am (2-(k+1)) Zbx ⟨k+1,by omega,rfl,rfl⟩ ?_;exact qq.a):p:=h ⟨k⟩
theorem Zfn(k:q)(h:Zaa q->p:=by intro qq;refine Kr ?_;refine ZeA ?_;exact qq.a):p:=h ⟨k⟩
theorem Zfo(k:q)(h:Zaa q->p:=by intro qq;refine Go ?_;refine Wq (DT (ao rfl)) ?_;exact qq.a):p:=h ⟨k⟩
theorem Zfp(k:q)(h:Zaa q->p:=by intro qq;rw[Tryz.ntmps24];refine Go ?_;refine Dy 9 ?_;refine CY ?_;refine⟨_,HStep.q rfl (DO 3 rfl rfl Zbx),?_⟩;exact qq.a):p:=h ⟨k⟩
theorem Zfq(h:p:=by refine Go ?_;refine ZeF ?_;refine Am (n-(k+1)) Zbx ⟨k+1,N++[x],R,by omega,rfl,by simp[V],S,Dj Q Y I,rfl⟩ ?_;exact Ac ZbG ZcA):p:=h
theorem Zfr(h:p:=by refine CP (ao rfl) ?_;exact(by repeat (first | exact AC (a.symm) | apply Ar | apply PanQ.block | apply PanQ.loop):PanQ _ _) _):p:=h
theorem Zfs(h:p:=by go_ret;exact⟨by rw[Pp (k:=q) Zdh Zcl (λi K=>J.out.2 i K) (by rw[H.out,T.out];exact hgt)];rfl,(J.out.1.drewN _).drewN _⟩):p:=h
theorem Zft(k:q)(h:Zaa q->p:=by intro qq;refine Go ?_;refine AF [0,1] [] [] (G) Zbs rfl rfl Zbu Zbt ZbA Zbr Zbw trivial rfl ?_;exact qq.a):p:=h ⟨k⟩
theorem Zfu(h:p:=by rw[List.getD_eq_getElem?_getD,List.getElem?_eq_getElem B,e];rfl):p:=h
theorem Zfv(h:p:=by refine Wq (HG (r:=((k:Nat):Int)) (ao rfl) (ao rfl) ((Gg (Bw V 1%((2^3:Nat):Int)) (j:=2) Zbx).trans Zbx)) ?_;exact ZeC):p:=h
theorem Zfw(h:p:=by refine Go ?_;exact Aq (Ak (ResV.tmp rfl rfl) (Af (by rw[W])))):p:=h
theorem Zfx(k:q)(h:Zaa q->p:=by intro qq;refine Go ?_;refine Wq (DN (ao rfl) (Aa rfl)) ?_;exact qq.a):p:=h ⟨k⟩
theorem Zfy(h:p:=by have:=Ck (c:=n) J.out.2.2.1 J.out.2.1 Zcb Zbx;exact ZeX):p:=h
theorem Zfz(k:q)(h:Zaa q->p:=by intro qq;refine Go ?_;refine Am 0 Zbx ⟨r*y,2,.inr (.inr ⟨rfl,rfl,rfl⟩),rfl⟩ ?_;exact qq.a):p:=h ⟨k⟩
theorem ZfA(k:q)(h:Zaa q->p:=by intro qq;refine HYSteps.cons (.q rfl (Bo rfl (Aa rfl) rfl (Aa rfl) rfl rfl)) ?_;refine HYSteps.cons (.q rfl (Bo rfl (Aa rfl) rfl (Aa rfl) rfl rfl)) ?_;exact qq.a):p:=h ⟨k⟩
theorem ZfB(h:p:=by refine ZeO ?_;exact Aq (Ak (ResV.cell rfl rfl (Aa rfl) rfl rfl rfl) (Af (congrArg AL (DF F.1 F.2))))):p:=h
theorem ZfC(h:p:=by refine CY ?_;exact ZeE):p:=h
theorem ZfD(h:p:=by refine Xg (DI (n:=m) (ah rfl) (ah rfl) Y Z) ?_;exact ZfC):p:=h
theorem ZfH(h:p:=by refine Go ?_;exact Aq (Ak (ResV.cell rfl rfl (Aa rfl) rfl rfl rfl) (Af (congrArg AL (DF W.1 W.2))))):p:=h
theorem ZfI(h:p:=by obtain⟨k,rfl⟩:∃k,q=k+1:=⟨q-1,by omega⟩;rw[Nat.add_sub_cancel,Nat.add_mul,Nat.one_mul]):p:=h
theorem ZfJ(h:p:=by congr 1;omega):p:=h
theorem ZfK(h:p:=by rw[Nat.mul_add];omega):p:=h
theorem ZfL(h:p:=by obtain⟨A1,n1,i,rfl⟩:=o.form;exact⟨_,rfl,xa,_,_,_,rfl,by rw[AW (BK _),AB]at o;exact o⟩):p:=h
theorem ZfM(h:p:=by refine Go ?_;exact Aq (Rets.of2 (ResV.tmp rfl rfl) (ResV.tmp rfl rfl) (BU (Af ZcT) (Af ZcS)))):p:=h
theorem ZfN(h:p:=by rw[Nat.succ_mul]at this;omega):p:=h
theorem ZfO(h:p:=by rw[<-G]at Y;exact⟨_,F,Y,S,e3,.inl e4,e5,λb E=>by cases E;exact .inr (Nat.le_refl _)⟩):p:=h
theorem ZfP(h:p:=by have:=JA (hp:=hp) (dd:=dd) (ty:=ty) (ps:=ps) (af:=af) (gd:=gd) (U:=U) C N;rwa [h]at this):p:=h
theorem ZfQ(h:p:=by have d:j (.tmp 1)=.pointer (some ⟨w.heap.size,0,none⟩):=t 1 ZbA;exact AA Zea rfl):p:=h
theorem ZfR(h:p:=by have I:j (.tmp 2)=.pointer (some ⟨w.heap.size,0,none⟩):=t 2 ZbA;exact AA ZdY rfl):p:=h
theorem ZfS(h:p:=by have Z:j (.tmp 5)=.int .i64 (k:Int):=t 5 ZbA;exact AA (by simp[execOp,Z,go_sem]) rfl):p:=h
theorem ZfT(h:p:=by rw[X.out]at this;exact this):p:=h
theorem ZfU(h:p:=by rw[List.take_append_drop,List.length_take,Nat.min_eq_left Zbx]at this;exact this):p:=h
theorem ZfY(h:p:=by go_ret;exact⟨by rw[Ju (by rw[<-s.out,<-a.out];exact hgt)];rfl,Ext.refl _⟩):p:=h
theorem ZfZ(h:p:=by have:=l.out.2.2.1.cell (k:=k) ZcW;exact ZfT):p:=h
theorem Zga(h:p:=by obtain⟨A1,n1,i,rfl⟩:=o.form;exact⟨_,rfl,xa,_,_,_,rfl,by skip;exact o⟩):p:=h
theorem Zgb(k:q)(h:Zaa q->p:=by intro qq;refine Kr ?_;apply AWl.nil;exact qq.a):p:=h ⟨k⟩
theorem Zgd(h:p:=by refine Ab Tryz.func76 λB=>?_;rw[Tryz.ntmps76];exact ZeE):p:=h
theorem Zge(h:p:=by refine Am (s.length-(k+1)) Zbx ⟨k+1,by omega,rfl,rfl⟩ ?_;exact Ac Zdl Zch):p:=h
theorem Zgf(h:p:=by refine Go ?_;exact Aq (Ak (ResV.tmp rfl rfl) (Af (by rw[Rj];congr 3;omega)))):p:=h
theorem Zgg(h:p:=by go_ret;exact⟨by rw[Jt (by rw[<-s.out,<-a.out];exact Q)];rfl,Ext.refl _⟩):p:=h
theorem Zgh(h:p:=by rw[List.getD_eq_getElem?_getD,List.getElem?_map,List.getElem?_range C];rfl):p:=h
theorem Zgi(h:p:=by refine Go ?_;refine Wq (DT (ao rfl)) ?_;refine AJ [0] [] [] (G) (BA rfl) (λY=>(by repeat (first | exact AC (Y) | apply Ar | apply PanQ.block | apply PanQ.loop):PanQ _ _) _) rfl rfl Zbu Zbt ZbA Zbr Zbw trivial rfl ?_;rintro _ _ ⟨x,j,u,P,rfl,rfl⟩;refine ZeL ?_;refine FinP.ret (RetsA.one rfl) rfl ?_ rfl;exact⟨x,j,u,P,rfl,rfl⟩):p:=h
theorem Zgj(h:p:=by show(if s1.w.heap.size=s1.w.heap.size then i+1 else _)=i+1;rw[if_pos rfl]):p:=h
theorem Zgk(h:p:=by rw[e];exact⟨(Int.natCast_ediv _ _).symm,(Int.natCast_emod _ _).symm⟩):p:=h
theorem Zgl(h:p:=by refine Am (8-(j+1)) Zbx ⟨j+1,by omega,rfl,rfl⟩ ?_;exact Ac Zcf ZdI):p:=h
theorem Zgm(h:p:=by simp only[down,E];rfl):p:=h
theorem Zgn(h:p:=by refine FinP.ret (RetsA.one rfl) rfl ?_ rfl;exact⟨_,_,X,A,rfl,rfl⟩):p:=h
theorem Zgo(h:p:=by have:(r+1)*4294967296<=d*4294967296:=Nat.mul_le_mul_right _ Y;omega):p:=h
theorem Zgp(h:p:=by go_ret;exact⟨by rw[n.out];rfl,(J.out.2.2.2.2.drewN _).drewN _⟩):p:=h
theorem Zgq(k:q)(h:Zaa q->p:=by intro qq;refine Go ?_;refine AF [0,1] [] [] ((by rw[I]at G;exact G)) Zbs rfl rfl Zbu Zbt ZbA Zbr Zbw trivial rfl ?_;exact qq.a):p:=h ⟨k⟩
theorem Zgs(h:p:=by rintro _ _ ⟨rfl,rfl⟩;refine ZeL ?_;refine Am (8-(k+1)) Zbx ⟨k+1,by omega,rfl,rfl⟩ ?_;exact Ac Zca ZbV):p:=h
theorem Zgt(h:p:=by refine AF [0,1] [] [] (G) Zbs rfl rfl Zbu Zbt ZbA Zbr Zbw trivial rfl ?_;exact Zgs):p:=h
theorem Zgu(h:p:=by go_wp2;exact⟨⟨k,_,_,by omega,rfl,xg.out⟩,by simp[intOf]⟩):p:=h
theorem Zgv(h:p:=by have e7:j (.tmp 7)=.int .i64 (k:Int):=S 7 ZbA;exact AA ZdU rfl):p:=h
theorem Zgw(h:p:=by have e6:M (.tmp 6)=.int .i64 (k:Int):=t 6 ZbA;exact AA ZdT rfl):p:=h
theorem Zgx(h:p:=by have e8:M (.tmp 8)=.int .i64 (j:Int):=t 8 ZbA;exact AA ZdV rfl):p:=h
theorem Zgy(h:p:=by refine CutS.normal () (by simp[LR,Rg,A,B]) ?_;exact Ac Zdg ZbH):p:=h
theorem Zgz(h:p:=by refine Go ?_;exact Aq (Ak (ResV.tmp rfl rfl) (Af (by rw[b])))):p:=h
theorem ZgA(h:p:=by refine Go ?_;exact Aq (Ak (ResV.tmp rfl rfl) (Af (by rw[a])))):p:=h
theorem ZgB(h:p:=by rw[List.length_take];omega):p:=h
theorem ZgC(h:p:=by simp;omega):p:=h
theorem ZgD(h:p:=by rw[FJ];refine Ab Tryz.func24 λB=>?_;refine Zfp ?_;refine CY ?_;exact ZeC):p:=h
theorem ZgE(h:p:=by have:=Ck (c:=k+m) J.out.2.2.1 J.out.2.1 Zcb Zbx;exact ZeX):p:=h
theorem ZgF(h:p:=by have:=Ck (c:=m+1) J.out.2.2.1 J.out.2.1 Zcb Zbx;exact ZeX):p:=h
theorem ZgG(h:p:=by simp only[List.length_cons];omega):p:=h
theorem ZgH(h:p:=by rw[<-Nat.succ_mul];exact Nat.mul_le_mul K (Nat.le_refl n)):p:=h
theorem ZgI(h:p:=by rw[Nat.mul_zero,Nat.add_zero];exact Nat.mod_add_div m BB):p:=h
theorem ZgJ(h:p:=by rw [Nat.div_eq_of_lt Q.out,Br];exact Words.nil _ _ _ Zbx):p:=h
theorem ZgK(h:p:=by rw[Iw 9998 a b W (List.range 8) ZbK]at this;exact this):p:=h
theorem ZgL(h:p:=by refine Go ?_;exact Aq (Ak (ResV.tmp rfl rfl) (Af Zep))):p:=h
theorem ZgM(h:p:=by rw[if_pos (by simp[Region.wanted,ck.gd])];exact .inl h):p:=h
theorem ZgN(h:p:=by go_ret;exact⟨by rw[Z.out];rfl,X.out.trans I.out⟩):p:=h
theorem ZgO(k:q)(h:Zaa q->p:=by intro qq;refine Wq (A1J (ao rfl) (ao rfl) (Aa rfl) (Aa rfl) rfl Q (Hj (λ_=>rfl) Q)) ?_;refine Zft ?_;exact qq.a):p:=h ⟨k⟩
theorem ZgP(h:p:=by rw[C]at this;exact this):p:=h
theorem ZgQ(k:q)(h:Zaa q->p:=by intro qq;refine Go ?_;refine Wq (DT (ao rfl)) ?_;refine AF [0,1] [] [] (G) Zbs rfl rfl Zbu Zbt ZbA Zbr Zbw trivial rfl ?_;exact qq.a):p:=h ⟨k⟩
theorem ZgR(h:p:=by rw[xa.size];exact(List.getElem?_eq_some_iff.1 m).1):p:=h
theorem ZgS(h:p:=by rw[List.set_eq_take_append_cons_drop,if_pos A];rfl):p:=h
theorem ZgT(h:p:=by rw[show i+(j+1)=i+1+j by omega]at this;exact this):p:=h
theorem ZgU(h:p:=by rw[Bool.eq_iff_iff];simp[LR,Ve,sw4,sw6,and_assoc]):p:=h
theorem ZgV(h:p:=by congr 2;exact Array.eq_empty_of_size_eq_zero ZbK):p:=h
theorem ZgW(k:q)(h:Zaa q->p:=by intro qq;refine⟨R,by rw[Z.out.2];rfl,?_,J.out.2.2.2.2.trans X⟩;rw[AW J.out.2.1,<-Z.out.1]at Q;exact qq.a):p:=h ⟨k⟩
theorem ZgX(h:p:=by refine CY ?_;exact ZeH):p:=h
theorem ZgY(h:p:=by refine Go ?_;exact ZeQ):p:=h
theorem ZgZ(h:p:=by simp[Array.getElem?_setIfInBounds_ne this]):p:=h
theorem Zha(h:p:=by exact .inl (opStep_wp xp.2 (eval_operands T xa m C xf xe) (xq hw) λv w2 ⟨R,xy⟩=>xI v w2 _ rfl R xy)):p:=h
theorem Zhb(h:p:=by exact usteps_steps T (λk x C=>by have:=(Jc C).1;rwa [Nat.zero_add]at this) (λk=>by rw[Nat.zero_add]) (λk=>by rw[Nat.zero_add]) o.1 Q):p:=h
theorem Zhc(h:p:=by exact⟨n,Nat.le_refl _,rfl,by rw[X.out,List.take_length];rfl⟩):p:=h
theorem Zhd(h:p:=by exact⟨0,0,r,Nat.zero_le _,rfl,rfl,by omega,J.out.1,J.out.2.1,J.out.2.2.1,by simp[val,J.out.2.2.2.1],J.out.2.2.2.2⟩):p:=h
theorem Zhe(h:p:=by simpa using u):p:=h
theorem Zhf(h:p:=by exact ((((Ext.refl _).alloc _).trans X).set (Nat.le_refl _) _).set (Nat.le_refl _) _):p:=h
theorem Zhg(h:p:=by exact ((((Ext.refl _).alloc _).trans z.out).set (Nat.le_refl _) _).set (Nat.le_refl _) _):p:=h
theorem Zhh(h:p:=by simp[execOp,O,E,G,Instr.indexAt,Instr.sureAddr,asIntOf,run_underlying M.und,F,K,B.run_size,Addr.add_lit]):p:=h
theorem Zhi(h:p:=by exact ⟨undef,λh=>absurd h i⟩):p:=h
theorem Zhj(h:p:=by exact⟨_,R,F,⟨X,z,S⟩,.pass (x:=.inLoop c) rfl (λ_ _=>.inl ZbK) W⟩):p:=h
theorem Zhk(h:p:=by exact ⟨N.df,v,u,v,rfl,C,rfl,N.le.le λ_ h=>h,A⟩):p:=h
theorem Zhl(h:p:=by exact .inr ⟨j,by omega,h3⟩):p:=h
theorem Zhm(h:p:=by exact⟨0,by omega,rfl,rfl,(Ext.refl _).alloc _⟩):p:=h
theorem Zhn(h:p:=by decide +kernel):p:=h
theorem Zho(h:p:=by exact⟨by omega,λ_=>by omega⟩):p:=h
theorem Zhp(h:p:=by rw[J.out.2.2.1.cell,Dn Zcb]):p:=h
theorem Zhq(h:p:=by simpa using this):p:=h
theorem Zhr(h:p:=by rwa [List.length_take,Nat.min_eq_left Zbx]at this):p:=h
theorem Zhs(h:p:=by exact⟨x,by simp[r],l.out.1.trans M.out.symm,l.out.2.1,l.out.2.2.1,l.out.2.2.2.1,by rw[M.out];exact B.out⟩):p:=h
theorem Zht(h:p:=by rw[List.append_assoc,<-List.drop_drop,List.take_append_drop,List.take_append_drop]):p:=h
theorem Zhu(h:p:=by rw[h,Nat.mul_comm q,Nat.mul_add_mod,Nat.mod_eq_of_lt Y]):p:=h
theorem Zhv(h:p:=by exact ((((((((Ext.refl _).alloc _).alloc _).alloc _).alloc _).trans Y.out |>.set Zcm _).set Zcm _).set Zcm _).set Zcm _):p:=h
theorem Zhw(h:p:=by simp[Cm,List.getD_eq_getElem?_getD,List.getElem?_eq_getElem h]):p:=h
theorem Zhx(h:p:=by exact Option.some.inj h):p:=h
theorem Zhy(h:p:=by exact k.run a w ⟨s,_,V,this⟩):p:=h
theorem Zhz(h:p:=by exact Aq (Ak (ResV.cell rfl rfl (Aa rfl) rfl rfl rfl) (D.le.refl _))):p:=h
theorem ZhA(h:p:=by exact Ac Zcc Zch):p:=h
theorem ZhB(h:p:=by exact .inl ⟨Int.sign_eq_neg_one_of_neg h,h⟩):p:=h
theorem ZhC(h:p:=by exact .inr (.inl ⟨by rw[h];rfl,h⟩)):p:=h
theorem ZhD(h:p:=by exact .inr (.inr ⟨Int.sign_eq_one_of_pos h,h⟩)):p:=h
theorem ZhE(h:p:=by simp[Cm,List.getD_eq_getElem?_getD,List.getElem?_eq_getElem B]):p:=h
theorem ZhF(h:p:=by exact Aq (Rets.of2 (ResV.cell rfl rfl (Aa rfl) rfl rfl rfl) (ResV.tmp rfl rfl) (BU (D.le.refl _) (D.le.refl _)))):p:=h
theorem ZhG(h:p:=by exact Aq (Ak (ResV.tmp rfl rfl) (Af (by congr 2;omega)))):p:=h
theorem ZhH(h:p:=by exact ⟨Y.df,v,u,.inl ⟨v,rfl,G,n,r,_,z,rfl,xg,U⟩⟩):p:=h
theorem ZhI(h:p:=by exact(show a'.eval (.const v)=v from rfl)):p:=h
theorem ZhJ(h:p:=by exact(show a'.eval (.func f)=_ from rfl)):p:=h
theorem ZhK(h:p:=by exact Ls (L:=L) (rs:=q) (i:=i+1) ZdE A Zer (λj M=>by rw[if_neg Zbx];exact z j M) l (xk b T _ e5) xi xe xd):p:=h
theorem ZhL(h:p:=by exact⟨rfl,by simp only[Cv,List.append_assoc];rfl⟩):p:=h
theorem ZhM(h:p:=by rw[Bk,List.length_append]):p:=h
theorem ZhN(h:p:=by exact Ac ZbJ ZcB):p:=h
theorem ZhO(h:p:=by exact⟨by simpa[AV.below,Nat.blt_eq]using W,Y.2⟩):p:=h
theorem ZhP(h:p:=by exact Ac ZbG ZbS):p:=h
theorem ZhQ(h:p:=by exact Ac ZbO ZbD):p:=h
theorem ZhR(h:p:=by exact .inr ⟨g,cap,cur,e1,e2,(E g (by rw[e1];rfl)).1.trans e3,e4⟩):p:=h
theorem ZhS(h:p:=by exact xK k' u (by rwa [Array.getElem?_toList]at xg)):p:=h
theorem ZhT(h:p:=by exact Ac ZbN (by(refine HpLe.cons (OwLe.row (by rw[U];simp)) ?_);exact HpLe.cons (Ai rfl)<|HpLe.cons (Ad rfl)<|HpLe.nil)):p:=h
theorem ZhU(h:p:=by exact Ac (by exact Yp<|Yp<|Yp<|Yd<|Yd<|FrLe.nil) ZcR):p:=h
theorem ZhV(h:p:=by exact Aq (Ak (ResV.cell rfl rfl (Aa rfl) rfl rfl rfl) (Af Zcw))):p:=h
theorem ZhW(h:p:=by exact Aq (Ak (ResV.tmp rfl rfl) (Af (congrArg (λz=>ex (.bool z)) ZdS)))):p:=h
theorem ZhX(h:p:=by exact Ac ZbP ZbH):p:=h
theorem ZhY(h:p:=by exact Aq (Ak (ResV.tmp rfl rfl) (Af (congrArg (λz=>ex (.bool z)) (by rw[q];simp))))):p:=h
theorem ZhZ(h:p:=by exact ClOk.mk' [] [] rfl rfl ⟨by dsimp only;omega,PB.nil,by dsimp only;omega,by dsimp only;omega,.inl Zco,λ_=>rfl,by simp,by simp,by simp⟩):p:=h
theorem Zia(h:p:=by exact⟨Nat.succ_lt_succ (Nat.zero_lt_succ _),rfl⟩):p:=h
end
end Go.Proofs
namespace Go.Proofs.YtcikkglcoeedlaaGreat
variable{vi:Act}{vH:Array Bool}{ud:Array Oper}{vz:Array Value}{p:Bool}{vL:Exit->Act->World->Prop}{a J:Int}{l f vm:List Nat}{n b T m:Nat}{q:Oper}{uu:Operand->Value}{uB:Option Addr}{P:Program}{t:TypeId}{z v:Value}{w h:World}
section
open Go.RowKit
def Ext(w O:World):Prop:=Below w.heap.size w O
theorem Ext.refl(w:World):Ext w w:=Below.refl _ _
theorem Ext.trans{a b c:World}(h:Ext a b)(k:Ext b c):Ext a c:=Below.trans h (Below.mono k h.size)
theorem Ext.drew{a b:World}(h:Ext a b):Ext a b.drew:=Below.drew h
theorem Ext.drewN(u:Ext w h)(n:Nat):Ext w (h.drewN n):=by
 obtain⟨A,B,I,V,m⟩:=u;exact⟨A,B,I,V,m⟩
theorem Ext.size{a b:World}(h:Ext a b):a.heap.size<=b.heap.size:=Below.size h
theorem Ext.block{a b:World}(h:Ext a b){k:Nat}(B:k<a.heap.size):b.heap[k]? = a.heap[k]?:=Below.block h k B
theorem Ext.cell{a b:World}(h:Ext a b){p:Addr}(F:p.block<a.heap.size):b.cell? p=a.cell? p:=Below.cell h F
theorem Ext.frozen{a b:World}(h:Ext a b){p:Addr}(F:p.block<a.heap.size):b.frozen? p=a.frozen? p:=Below.frozen h F
theorem Ext.cellv(u:Ext w h){p:Addr}{v:Value}(o:w.cell? p=some v):h.cell? p=some v:=(u.cell (World.block_lt_of_cell? w p o)).trans o
theorem Ext.alloc{a b:World}(h:Ext a b)(o:Obj):Ext a (b.alloc o):=Below.alloc h h.size o
theorem Ae{p:Prop}(h:p):Hid p:=h
def OpStep(P:Program)(o:Oper)(ev:Operand->Value)(w:World)(R:Value->World->Prop):Prop:=
 match (execOp ev o).run P w with
 |.ok (.value v) O=>R v O
 |.ok .skip O=>R undef O
 |.ok (.enter f args) O=>Calls P f args O λe H=>∃v,e=.returned v/\R v H
 |_=>False
structure Shape where
 env:List (Nat×Nat)
 bef:List Nat
 deps:List Nat
def upd(g:Nat->Value)(i:Nat)(v:Value):Nat->Value:=λk=>if k=i then v else g k
def RC(u:Operand->Value)(g:Nat->Value):List (Nat×Nat)->Prop
 |[]=>True
 |(t,j)::r=>u (.tmp t)=g j/\RC u g r
def Ep(o:Oper)(g:Nat->Value):Bool:=
 match o.guard with
 |none=>true
 |some (j,b)=>match g j with |.bool c=>c==b |_=>false
abbrev Fact:=List Value->World->Prop
def Known(u:List Shape)(G:List Fact)(i:Nat)(g:Nat->Value)(w:World):Prop:=
 ∀x,u[i]? = some x->∀j∈x.bef,∀y F,u[j]? = some y->G[j]? = some F->F (y.deps.map g) w
def StepAt(P:Program)(y:List Shape)(G:List Fact)(a:Act)(T:World)(i:Nat)(o:Oper)(x:Shape)(F:Fact):Prop:=
 ∀(g:Nat->Value) (w:World) (j:Operand->Value),Ext T w->Known y G i g w->RC j g x.env ->
  (∀t,(∀p∈x.env,p.1≠t)->j (.tmp t)=a.tmps.getD t undef)->(∀v,j (.const v)=v)->(∀f,j (.func f)=.func (.func f) #[] #[]) ->
  (Ep o g=true->OpStep P o j w λv O=>Ext w O/\F (x.deps.map (upd g i v)) O)/\(Ep o g=false->F (x.deps.map (upd g i undef)) w)
def StepsAt(P:Program)(y:List Shape)(G:List Fact)(a:Act)(u:World):Nat->List Oper->List Shape->List Fact->Prop
 |i,o::L,x::S,F::T=>StepAt P y G a u i o x F/\StepsAt P y G a u (i+1) L S T
 |_,_,[],[]=>True
 |_,_,_,_=>False
theorem StepsAt.at{P:Program}{y:List Shape}{M:List Fact}{a:Act}{K:World}:∀{S:List Shape} {T:List Fact} {L:List Oper} {i:Nat},StepsAt P y M a K i L S T ->
  S.length=T.length/\∀k o x,L[k]? = some o->S[k]? = some x->∃F,T[k]? = some F/\StepAt P y M a K (i+k) o x F
 |[],[],L,i,_=>⟨rfl,λk o x _ C=>by simp at C⟩
 |[],_::_,L,i,h=>by cases L<;>exact h.elim
 |_::_,[],L,i,h=>by cases L<;>exact h.elim
 |x::S,F::T,[],i,h=>h.elim
 |x::S,F::T,o::L,i,h=>Zab
def Bp(o:Oper):List Nat:=(o.after.toList.filter λe=>Region.binds .any e).map (·.on)
def CR(y:List Shape)(j:Nat):List Nat:=(y[j]?.map (·.bef)).getD []
def Bz:Op->Bool
 |.select ..=>false
 |_=>true
def En(L:List Oper)(y:List Shape)(i:Nat)(o:Oper)(x:Shape):Bool:=
 x.bef.all (λj=>(Bp o).any λe=>e==j||(CR y e).contains j) &&
 x.deps.all (λk=>k==i||x.bef.contains k) &&
 x.env.all (λp=>x.bef.contains p.2&&decide (p.2<y.length)&&(match L[p.2]? with | some u=>u.dst==some p.1 | none=>false)) &&
 o.op.operands.toList.all (fun | .tmp t=>(x.env.map (·.1)).contains t||((List.range y.length).all λj=>match L[j]? with | some u=>u.dst != some t||j==i||(CR y j).contains i | none=>true) | _=>true) &&
 (match o.guard with | some (j,_)=>x.bef.contains j&&decide (j<y.length)&&(match L[j]? with | some u=>u.dst.isSome | none=>false) | none=>true) &&
 Bz o.op
def A0h(L:List Oper)(y:List Shape)(t:Nat)(o:Oper):Bool:=
 (List.range t).all λj=>(Bp o).any λe=>e==j||(if e<y.length then(CR y e).contains j else decide (j<e))
def Dp(L:List Oper)(y:List Shape):Bool:=
 decide (y.length<=L.length) &&
 L.zipIdx.all (λ(o,i)=>(Bp o).all (λe=>decide (e<i)) &&
  (match y[i]? with | some x=>En L y i o x | none=>A0h L y i o)) &&
 (List.range y.length).all (λi=>(List.range y.length).all λj=>i==j||(match L[i]?,L[j]? with | some o,some k=>o.dst.isNone||o.dst != k.dst | _,_=>true))
def Gd(L:List Oper)(n q:Nat):Bool:=(L.take n).all λo=>match o.dst with | some d=>decide (d<q) | none=>true
def EM(g:Nat->Value):List Oper->Nat->Act->Act
 |[],_,a=>a
 |o::r,i,a=>EM g r (i+1) (a.put o.dst (g i))
section
variable {P:Program} {L:List Oper} {sh:List Shape} {Rs:List Fact} {a:Act} {w0:World}
theorem CW(h:Dp L sh=true):sh.length<=L.length:=by
 simp only[Dp,Bool.and_eq_true,decide_eq_true_eq]at h;exact h.1.1
theorem Cn(h:Dp L sh=true){i:Nat}(n:L[i]? = some q) :
  (∀e∈Bp q,e<i)/\(∀x,sh[i]? = some x->En L sh i q x=true)/\(sh[i]? = none->A0h L sh i q=true):=by
 simp only[Dp,Bool.and_eq_true]at h
 have A:=List.all_eq_true.1 h.1.2 (q,i) (by
  rw[List.mem_zipIdx_iff_getElem?];exact n)
 simp only[Bool.and_eq_true,List.all_eq_true,decide_eq_true_eq]at A;refine⟨A.1,λx C=>?_,λC=>?_⟩
 .have:=A.2;exact ZgP
 .have:=A.2;exact ZgP
theorem Fb(h:Dp L sh=true){i j:Nat}{o k:Oper}(K:i<sh.length)(u:j<sh.length)(n:L[i]? = some o)(E:L[j]? = some k)(W:o.dst=some T)(B:k.dst=some T):i=j:=by
 simp only[Dp,Bool.and_eq_true]at h;have A:=List.all_eq_true.1 (List.all_eq_true.1 h.2 i (List.mem_range.2 K)) j (List.mem_range.2 u);rw[n,E]at A;simp[W,B]at A;exact A
theorem JM{e:Edge}(u:e∈q.after)(E:Region.binds .any e=true):e.on∈Bp q:=by
 unfold Bp;exact List.mem_map.2 ⟨e,List.mem_filter.2 ⟨by simpa using u,E⟩,rfl⟩
theorem Ih(h:n∈Bp q):∃e∈q.after,Region.binds .any e=true/\e.on=n:=by
 unfold Bp at h;obtain⟨e,B,rfl⟩:=List.mem_map.1 h;obtain⟨u,A⟩:=List.mem_filter.1 B;exact⟨e,by simpa using u,A,rfl⟩
structure HInv(L:List Oper)(sh:List Shape)(Rs:List Fact)(a:Act)(w0:World)(listed:Array Bool)(g:Nat->Value)(a':Act)(w':World):Prop where
 size:listed.size=L.length
 closed:∀j o,L[j]? = some o->listed.getD j false=true->∀e∈Bp o,listed.getD e false=true
 tail:∀t,sh.length<=t->listed.getD t false=false
 asz:a'.tmps.size=a.tmps.size
 adef:a'.defers=a.defers
 a1:∀j o d,j<sh.length->L[j]? = some o->listed.getD j false=true->o.dst=some d->a'.tmps[d]? = some (g j)
 a2:∀t,(∀j o,j<sh.length->L[j]? = some o->listed.getD j false=true->o.dst≠some t)->a'.tmps[t]? = a.tmps[t]?
 facts:∀j y F,sh[j]? = some y->Rs[j]? = some F->listed.getD j false=true->F (y.deps.map g) w'
 ext:Ext w0 w'
variable{un:Shape}
theorem DR(h:sh[n]? = some un):n<sh.length:=(List.getElem?_eq_some_iff.1 h).1
theorem Dw(T:Dp L sh=true)(G:∀j o,L[j]? = some o->vH.getD j false=true->∀e∈Bp o,vH.getD e false=true) :
  ∀(i:Nat) (x:Shape) (o:Oper),sh[i]? = some x->L[i]? = some o->(∀e∈Bp o,vH.getD e false=true)->∀j∈x.bef,vH.getD j false=true:=by
 intro i
 induction i using Nat.strongRecOn with
 |_ i I=>
  intro x o C n K j E;obtain⟨Q,F,_⟩:=Cn T n;have u:=F x C;simp only[En,Bool.and_eq_true]at u;have A:=List.all_eq_true.1 u.1.1.1.1.1 j E;obtain⟨e,B,M⟩:=List.any_eq_true.1 A;have g:=K e B;simp only[Bool.or_eq_true,beq_iff_eq]at M;rcases M with rfl | M
  .exact g
  .have c:=Q e B
   cases N:sh[e]? with
   |none=>simp[CR,N]at M
   |some y=>
    have O:e<L.length:=Nat.lt_of_lt_of_le (DR N) (CW T);have v:L[e]? = some L[e]:=List.getElem?_eq_getElem O;refine I e c y _ N v (G e _ v g) j ?_;simpa[CR,N]using M
noncomputable def Nu (a:Act) (g:Nat->Value) (env:List (Nat×Nat)):Operand->Value
 |.tmp t=>match env.find? (λp=>p.1==t)with
  |some p=>g p.2
  |none=>a.tmps.getD t undef
 |.const v=>v
 |.global b=>.pointer (some ⟨b,0,none⟩)
 |.func f=>.func (.func f) #[] #[]
theorem Gb(T:Dp L sh=true){i:Nat}(C:sh[i]? = some un)(n:L[i]? = some q){p:Nat×Nat}(F:p∈un.env) :
  p.2∈un.bef/\p.2<sh.length/\∃k,L[p.2]? = some k/\k.dst=some p.1:=by
 have u:=(Cn T n).2.1 un C;simp only[En,Bool.and_eq_true]at u;have A:=List.all_eq_true.1 u.1.1.1.2 p F;simp only[Bool.and_eq_true,decide_eq_true_eq]at A;obtain⟨⟨I,V⟩,m⟩:=A;refine⟨by simpa using I,V,?_⟩;split at m
 .rename_i k E;exact⟨k,E,by simpa using m⟩
 .cases m
theorem Pi{u:Operand->Value}{g:Nat->Value}:∀{env:List (Nat×Nat)},(∀p∈env,u (.tmp p.1)=g p.2)->RC u g env
 |[],_=>trivial
 |(t,j)::r,h=>⟨h (t,j) ZbK,Pi λp F=>h p (by simp[F])⟩
theorem step_inv(T:Dp L sh=true)(W:Gd L sh.length a.tmps.size=true)
  (xc:∀F∈Rs,∀S X b,Ext X b->F S X->F S b)
 {g:Nat->Value} (V:HInv L sh Rs a w0 vH g vi w) {i:Nat} {F:Fact} (n:L[i]? = some q) (E:sh[i]? = some un) (hF:Rs[i]? = some F)
  (o:vH.getD i false=false) (m:∀e∈Bp q,vH.getD e false=true) (O:Ext w h) (p:F (un.deps.map (upd g i z)) h) :
  HInv L sh Rs a w0 (vH.setIfInBounds i true) (upd g i z) (vi.put q.dst z) h:=by
 have xb:i<sh.length:=DR E;have H:i<vH.size:=by rw[V.size];exact(List.getElem?_eq_some_iff.1 n).1
 have xa:∀j,(vH.setIfInBounds i true).getD j false=true->j≠i->vH.getD j false=true:=λj u R=>by
  rw[getD_set_ne false (λe=>R e.symm)]at u;exact u
 have xh:∀j y l,sh[j]? = some y->L[j]? = some l->vH.getD j false=true->i∉y.bef:=λj y l N f I K=>by
  have:=Dw T V.closed j y l N f (V.closed j l f I) i K;rw[o]at this;cases this
 refine⟨by simp[V.size],λj l f I e J=>?_,λt M=>?_,?_,?_,λj l d R f I U=>?_,λt M=>?_,λj y G N s I=>?_,V.ext.trans O⟩
 .by_cases r:j=i
  .subst r
   have:l=q:=Option.some.inj (f.symm.trans n);subst this;exact getD_set_true (m e J)
  .exact getD_set_true (V.closed j l f (xa j I r) e J)
 .rw [getD_set_ne false Zbx];exact V.tail t M
 .unfold Act.put;split<;>simp[V.asz]
 .unfold Act.put;split<;>simp[V.adef]
 .by_cases r:j=i
  .subst r
   have:l=q:=Option.some.inj (f.symm.trans n);subst this
   have xe:d<vi.tmps.size:=by
    rw[V.asz];have B:=List.all_eq_true.1 W l (List.mem_of_getElem? (i:=j) (by rw[List.getElem?_take];simp[xb,f]));simp only[U,decide_eq_true_eq]at B;exact B
   simp[Act.put,U,upd,xe]
  .have xd:=xa j I r
   have Z:q.dst≠some d:=λe=>r (Fb T R xb f n U e);rw[show upd g i z j=g j by simp[upd,r],<-V.a1 j l d R f xd U];unfold Act.put;split
   .rename_i Y c
    have:Y≠d:=λe=>Z (by rw[c,e]);simp[Array.getElem?_setIfInBounds_ne this]
   .rfl
 .have B:q.dst≠some t:=by
   refine M i q xb n ?_;simp[H]
  rw[<-V.a2 t λj l R f I=>M j l R f (getD_set_true I)];unfold Act.put;split
  .rename_i Y c
   have:Y≠t:=λe=>B (by rw[c,e]);simp[Array.getElem?_setIfInBounds_ne this]
  .rfl
 .by_cases r:j=i
  .subst r
   have Q:y=un:=Option.some.inj (N.symm.trans E);have v:G=F:=Option.some.inj (s.symm.trans hF);subst Q;subst v;exact p
  .have xd:=xa j I r
   have x:j<L.length:=Nat.lt_of_lt_of_le (DR N) (CW T);have f:L[j]? = some L[j]:=List.getElem?_eq_getElem x;have xi:=xh j y _ N f xd
   have xf:y.deps.map (upd g i z)=y.deps.map g:=by
    refine List.map_congr_left λk C=>?_;have A:=(Cn T f).2.1 y N;simp only[En,Bool.and_eq_true]at A;have B:=List.all_eq_true.1 A.1.1.1.1.2 k C;simp only[Bool.or_eq_true,beq_iff_eq]at B
    have xg:k≠i:=by
     rintro rfl;rcases B with B | B
     .exact r B.symm
     .exact xi Zck
    simp[upd,xg]
   rw[xf];exact xc G (List.mem_of_getElem? s) _ _ _ O (V.facts j y G N s xd)
theorem eval_operands(T:Dp L sh=true){g:Nat->Value}(K:HInv L sh Rs a w0 vH g vi w)(E:L[n]? = some q)(C:sh[n]? = some un)
  (l:vH.getD n false=false) (R:∀e∈Bp q,vH.getD e false=true):∀y∈q.op.operands,vi.eval y=Nu a g un.env y:=Zac
theorem wanted_of(T:Dp L sh=true){g:Nat->Value}(K:HInv L sh Rs a w0 vH g vi w)(E:L[n]? = some q)(C:sh[n]? = some un)
  (N:∀e∈Bp q,vH.getD e false=true):Region.wanted q (yielded L.toArray vi.tmps)=Ep q g:=Zad
theorem opStep_wp{R:Value->World->Prop}{K:Act->World->Prop}(B:Bz q.op=true)(C:∀y∈q.op.operands,vi.eval y=uu y)
  (h:OpStep P q uu w R) (p:∀v H,R v H->K (vi.put q.dst v) H):q.wp P vi w K vL:=by
 unfold Oper.wp
 have A:∀Z b,q.op≠.select Z b:=by
  intro Z b e;rw[e]at B;cases B
 rw[execOp_congr q A C];unfold OpStep at h;split at h
 .rename_i v H Y;rw[Y];exact p _ _ h
 .rename_i H Y;rw[Y];exact p _ _ h
 .rename_i f args H Y
  rw[Y];exact Calls.mono h λe o ⟨v,u,J⟩=>by subst u;exact p _ _ J
 .exact h.elim
theorem Jn(h:n<vH.size):vH.getD n true=vH.getD n false:=by simp[h]
theorem KZ(T:Dp L sh=true)(w:vH.size=L.length){i:Nat}(K:i∈Region.ready .any L.toArray vH) :
  vH.getD i false=false/\∃o,L[i]? = some o/\∀e∈Bp o,vH.getD e false=true:=by
 obtain⟨u,o,n,I⟩:=mem_ready.1 K;have B:L[i]? = some o:=by simpa using n
 have x:i<vH.size:=by rw[w];exact(List.getElem?_eq_some_iff.1 B).1
 refine⟨by rw[<-Jn x];exact u,o,B,λe A=>?_⟩;obtain⟨U,C,E,rfl⟩:=Ih A;exact I U C E
theorem Jo(T:Dp L sh=true)(w:vH.size=L.length):∀(i:Nat),i<L.length->vH.getD i false=false->∃k,k<=i/\k∈Region.ready .any L.toArray vH:=by
 intro i
 induction i using Nat.strongRecOn with
 |_ i n=>
  intro K l;by_cases h:∃e,e<i/\vH.getD e false=false
  .obtain ⟨e,u,M⟩:=h
   obtain⟨k,B,Y⟩:=n e u Zbx M;exact⟨k,by omega,Y⟩
  .refine ⟨i, Nat.le_refl _, mem_ready.2 ⟨by rw [Jn Zbx]; exact l, L[i], by simp [K], λe u E=>?_⟩⟩
   have Q:=(Cn T (List.getElem?_eq_getElem K)).1 e.on (JM u E)
   cases G:vH.getD e.on false with
   |true=>rfl
   |false=>exact absurd ⟨e.on,Q,G⟩ h
def HM(U:Array Bool):Nat:=(U.toList.filter (!·)).length
theorem KE{i:Nat}(K:i<vH.size)(h:vH.getD i false=false):HM (vH.setIfInBounds i true)+1=HM vH:=by
 obtain⟨l⟩:=vH;simp only[HM,List.setIfInBounds_toArray,List.size_toArray]at *
 have d:l[i]? = some false:=by
  simp[K]at h;simp[List.getElem?_eq_getElem K,h]
 clear h
 induction l generalizing i with
 |nil=>simp at K
 |cons b l n=>
  cases i with
  |zero=>
   simp at d;subst d;simp
  |succ i=>
   simp only[List.set_cons_succ];have:=n (i:=i) Zee (by simpa using d);cases b<;>simp_all
theorem Pd(K:n<vH.size)(h:vH.getD n false=false):0<HM vH:=by
 have:=KE K h;omega
theorem Jb(T:Dp L sh=true)(w:vH.size=L.length)(G:∀j q,L[j]? = some q->vH.getD j false=true->∀e∈Bp q,vH.getD e false=true)
 (M:sh.length<=n) (C:L[n]? = some q) (F:∀e∈Bp q,vH.getD e false=true):∀j,j<n->vH.getD j false=true:=by
 induction n using Nat.strongRecOn generalizing q with
 |_ n E=>
  intro j i;obtain⟨Q,_,b⟩:=Cn T C;have u:=b (List.getElem?_eq_none_iff.2 M);have A:=List.all_eq_true.1 u j (List.mem_range.2 i);obtain⟨e,B,I⟩:=List.any_eq_true.1 A;simp only[Bool.or_eq_true,beq_iff_eq]at I;rcases I with rfl | I
  .exact F e B
  .have O:=Q e B
   have K:e<L.length:=by have:=(List.getElem?_eq_some_iff.1 C).1;omega
   have v:L[e]? = some L[e]:=List.getElem?_eq_getElem K;split at I
   .rename_i y
    have N:sh[e]? = some sh[e]:=List.getElem?_eq_getElem y;exact Dw T G e _ _ N v (G e _ v (F e B)) j (by simpa[CR,N]using I)
   .rename_i y
    exact E e O Zbx v (G e _ v (F e B)) j (by simpa using I)
theorem KX(T:Dp L sh=true):∀(f m:Nat) (U:Array Bool) (I:Act) (O:World),sh.length<=m->f+m=L.length->U.size=L.length ->
  (∀j,j<m->U.getD j false=true)->(∀j,m<=j->U.getD j false=false)->wpList P L.toArray vL (L.drop m) I O->wpAny P .any L.toArray vL f U I O:=by
 intro f
 induction f with
 |zero=>
  intro m U I O s p R u A h;have d:L.length<=m:=by omega
  rw[List.drop_eq_nil_of_le d]at h;refine⟨?_,h⟩
  cases Y:Region.ready .any L.toArray U with
  |nil=>rfl
  |cons x M=>
   obtain⟨C,o,n,_⟩:=KZ T R (i:=x) (by rw[Y];simp);have:=u x (by have:=(List.getElem?_eq_some_iff.1 n).1;omega);rw[C]at this;cases this
 |succ f N=>
  intro m U I O s p R u A h;have d:m<L.length:=by omega
  refine⟨λg=>?_,λi K=>?_⟩
  .obtain ⟨k,_,B⟩:=Jo T R m d (A m (Nat.le_refl _))
   rw[g]at B;cases B
  .obtain ⟨l,o,n,X⟩:=KZ T R K
   have Z:=(List.getElem?_eq_some_iff.1 n).1
   have r:m<=i:=by
    rcases Nat.lt_or_ge i m with Q | hge
    .have:=u i Q;rw[l]at this;cases this
    .exact hge
   have c:∀j W,L[j]? = some W->U.getD j false=true->∀e∈Bp W,U.getD e false=true:=λj W t E e F=>by
    have q:j<m:=by
     rcases Nat.lt_or_ge j m with Q | hge
     .exact Q
     .rw [A j hge]at E;cases E
    exact u e (Nat.lt_trans ((Cn T t).1 e F) q)
   have y:i=m:=by
    rcases Nat.lt_or_ge m i with Q | hge
    .have:=Jb T R c Zbx n X m Q
     rw[A m (Nat.le_refl _)]at this;cases this
    .omega
   subst y;rw[List.drop_eq_getElem_cons d]at h;have heq:L[i]=o:=by rw[List.getElem?_eq_getElem d]at n;exact Option.some.inj n
   rw[heq]at h
   have S:∀a w,wpList P L.toArray vL (L.drop (i+1)) a w->wpAny P .any L.toArray vL f (U.setIfInBounds i true) a w:=λa w V=>
    N (i + 1) _ a w Zbx Zbx (by simpa using R) (fun j G => by
     by_cases v:j=i
     .subst v;simp[R,d]
     .exact getD_set_true (u j Zbx)) (λj G=>by rw[getD_set_ne false Zbx];exact A j Zbx) V
   unfold wpOp;have b:L.toArray[i]? = some o:=by simpa using n
   rw[b];simp only[wpList]at h ⊢;split
   .rename_i V;rw[if_pos V]at h;exact h.imp (Oper.wp_mono S) id
   .rename_i V;rw[if_neg V]at h;exact S _ _ h
theorem FD{g:Nat->Value}:∀(l:List Oper) (i:Nat) (b:Act),(∀(j k:Nat) (o N:Oper) (d:Nat),l[j]? = some o->l[k]? = some N->o.dst=some d->N.dst=some d->j=k)->(∀o∈l,∀d,o.dst=some d->d<b.tmps.size) ->
  (EM g l i b).tmps.size=b.tmps.size/\(EM g l i b).defers=b.defers /\
  (∀(j:Nat) (o:Oper) (d:Nat),l[j]? = some o->o.dst=some d->(EM g l i b).tmps[d]? = some (g (i+j))) /\
  (∀t:Nat,(∀(j:Nat) (o:Oper),l[j]? = some o->o.dst≠some t)->(EM g l i b).tmps[t]? = b.tmps[t]?)
 |[],i,b,_,_=>⟨rfl,rfl,λj o d h=>by simp at h,λt _=>rfl⟩
 |o::l,i,b,W,E=>by
  have C:(b.put o.dst (g i)).tmps.size=b.tmps.size:=by unfold Act.put;split<;>simp
  obtain⟨u,A,I,V⟩:=FD (g:=g) l (i+1) (b.put o.dst (g i)) (λj k S X d K B F v=>by
   have:=W (j+1) (k+1) S X d Zee Zck F v;omega) (λN Q d R=>by rw[C];exact E N (by simp[Q]) d R)
  refine⟨u.trans C,A.trans (by unfold Act.put;split<;>rfl),λj N d K Y=>?_,λt M=>?_⟩
  .cases j with
   |zero=>
    simp at K;subst K;show(EM g l (i+1) (b.put o.dst (g i))).tmps[d]? = _
    rw[V d λk X B e=>by
     have:=W 0 (k+1) o X d rfl Zck Y e;omega]
    have:=E o ZbK d Y;simp[Act.put,Y,this]
   |succ j=>
    have:=I j N d Zee Y;rw[show i+(j+1)=i+1+j by omega];exact this
  .show (EM g l (i+1) (b.put o.dst (g i))).tmps[t]? = _
   rw[V t λk X B=>M (k+1) X Zck];have G:=M 0 o rfl;unfold Act.put;split
   .rename_i O R
    have:O≠t:=λe=>G (by rw[R,e]);exact ZgZ
   .rfl
theorem Lt{x y:Act}(h:x.tmps=y.tmps)(d:x.defers=y.defers):x=y:=by
 cases x;cases y;simp_all
theorem head_run(T:Dp L sh=true)(W:Gd L sh.length a.tmps.size=true)
  (xA:∀F∈Rs,∀H w1 w2,Ext w1 w2->F H w1->F H w2) (xj:StepsAt P sh Rs a w0 0 L sh Rs)
  (xw:∀g O,Ext w0 O->(∀(j:Nat) (y:Shape) (F:Fact),sh[j]? = some y->Rs[j]? = some F->F (y.deps.map g) O)->wpList P L.toArray vL (L.drop sh.length) (EM g (L.take sh.length) 0 a) O) :
  ∀(f:Nat) (U:Array Bool) (g:Nat->Value) (a':Act) (O:World),HM U=f->HInv L sh Rs a w0 U g a' O->wpAny P .any L.toArray vL f U a' O:=by
 obtain⟨xb,xt⟩:=xj.at;intro f
 induction f with
 |zero=>
  intro U g a' O r xa
  have xh:∀j,j<L.length->U.getD j false=true:=λj Z=>Zae
  refine KX T 0 L.length U a' O (CW T) Zbx xa.size xh (λj Z=>by simp[xa.size,Z]) ?_
  exact Zaf
 |succ f ih=>
  intro U g a' O r xa;by_cases xl:∀j,j<sh.length->U.getD j false=true
  .have xK:f+1+sh.length=L.length:=Zag
   refine KX T (f+1) sh.length U a' O (Nat.le_refl _) xK xa.size xl xa.tail ?_;have:=xw g O xa.ext λj y F N hF=>xa.facts j y F N hF (xl j (DR N))
   have xG:EM g (L.take sh.length) 0 a=a':=Zah
   rw[xG]at this;exact this
  .have xH:∃j,j<sh.length/\U.getD j false=false:=Classical.byContradiction λxp=>xl λj Z=>Zai
   obtain⟨j0,xL,xr⟩:=xH;refine⟨λX=>?_,λi K=>?_⟩
   .obtain ⟨k,_,B⟩:=Jo T xa.size j0 (Nat.lt_of_lt_of_le xL (CW T)) xr
    rw[X]at B;cases B
   .obtain ⟨xf,o,m,xe⟩:=KZ T xa.size K
    have xs:i<sh.length:=Zaj
    have C:sh[i]? = some sh[i]:=List.getElem?_eq_getElem xs;obtain⟨F,hF,w⟩:=xt i o _ m C;rw[Nat.zero_add]at w;have xn:i<U.size:=ZgR
    have xp:=(Cn T m).2.1 _ C;simp only[En,Bool.and_eq_true]at xp
    obtain⟨xq,xu⟩:=w g O (Nu a g sh[i].env) xa.ext (λx xv j Z y G N hG=>by
      have:x=sh[i]:=Option.some.inj (xv.symm.trans C);subst this;exact xa.facts j y G N hG (Dw T xa.closed i _ o C m xe j Z))
     (Pi λp I=>by
      obtain⟨u,A,c,xc,xd⟩:=Gb T C m I
      cases xi:sh[i].env.find? (λq=>q.1==p.1)with
      |none=>have:=List.find?_eq_none.1 xi p I;simp at this
      |some q=>
       have z:=List.mem_of_find?_eq_some xi;have xM:q.1=p.1:=by simpa using List.find?_some xi
       obtain⟨_,V,o2,xx,xo⟩:=Gb T C m z;rw[xM]at xo;have:=Fb T V A xx xc xo xd;simp only[Nu,xi,this])
     (λt M=>by
      have:sh[i].env.find? (λq=>q.1==t)=none:=List.find?_eq_none.2 λp I=>by simpa using M p I
      simp only[Nu,this])
     (λ_=>rfl) (λ_=>rfl)
    have xN:=wanted_of T xa m C xe
    have xI:∀v w2 b,(a'.put o.dst v)=b->Ext O w2->F (sh[i].deps.map (upd g i v)) w2->wpAny P .any L.toArray vL f (U.setIfInBounds i true) b w2:=λv w2 b E R xy=>by
     subst E;refine ih _ (upd g i v) _ _ ?_ (step_inv T W xA xa m C hF xf xe R xy);have:=KE xn xf;omega
    unfold wpOp;have xx:L.toArray[i]? = some o:=by simpa using m
    rw[xx];show if Region.wanted o (yielded L.toArray a'.tmps)=true then _ else _
    rw[xN];split
    .rename_i hw
     exact Zha
    .rename_i hw
     exact xI undef O _ rfl (Ext.refl _) (xu (by simpa using hw))
theorem wp_region_ext{L:List Oper}{a:Act}(s:P.follows .mixedOrders=true)(sh:List Shape)(Rs:List Fact)(T:Dp L sh=true)(W:Gd L sh.length a.tmps.size=true)
  (I:∀F∈Rs,∀A B C,Ext B C->F A B->F A C) (Q:StepsAt P sh Rs a w.drew 0 L sh Rs)
  (G:∀g O,Ext w.drew O->(∀(j:Nat) (y:Shape) (F:Fact),sh[j]? = some y->Rs[j]? = some F->F (y.deps.map g) O)->wpList P L.toArray vL (L.drop sh.length) (EM g (L.take sh.length) 0 a) O) :
  (Code.region n L.toArray true).wp P vL a w:=by
 refine wp_region_any s ?_;have E:HM (Array.replicate L.toArray.size false)=L.toArray.size:=by simp[HM,List.filter_replicate]
 refine head_run T W I Q G _ _ (λ_=>undef) a _ E ?_
 have u:∀j,(Array.replicate L.toArray.size false).getD j false=false:=λj=>Zak
 exact⟨by simp,(λj o _ h=>by rw[u]at h;cases h),λt _=>u t,rfl,rfl,(λj o d _ _ h=>by rw[u]at h;cases h),λt _=>rfl,(λj y F _ _ h=>by rw[u]at h;cases h),Ext.refl _⟩
end
abbrev VFact:=Value->World->Prop
def OpsKnown(n:List VFact)(u:Operand->Value)(w:World):List (Nat×Nat)->Prop
 |[]=>True
 |(t,j)::r=>(∀F,n[j]? = some F->F (u (.tmp t)) w)/\OpsKnown n u w r
def UStep(P:Program)(n:List VFact)(a:Act)(T:World)(o:Oper)(env:List (Nat×Nat))(F:VFact):Prop:=
 ∀(w:World) (u:Operand->Value),Ext T w->OpsKnown n u w env ->
  (∀t,(∀p∈env,p.1≠t)->u (.tmp t)=a.tmps.getD t undef)->(∀v,u (.const v)=v)->(∀f,u (.func f)=.func (.func f) #[] #[]) ->
  match o.guard with
  |none=>OpStep P o u w λv O=>Ext w O/\F v O
  |some (j,b)=>∀i,(∀G,n[j]? = some G->G i w)->(i=.bool b->OpStep P o u w λv O=>Ext w O/\F v O)/\(i≠.bool b->F undef w)
def USteps(P:Program)(n:List VFact)(a:Act)(u:World):List Oper->List (List (Nat×Nat))->List VFact->Prop
 |o::L,x::S,F::T=>UStep P n a u o x F/\USteps P n a u L S T
 |_,[],[]=>True
 |_,_,_=>False
theorem USteps.cons{n:List VFact}{a:Act}{L:List Oper}{x:List (Nat×Nat)}{S:List (List (Nat×Nat))}{F:VFact}{T:List VFact}(h:UStep P n a w q x F)(b:USteps P n a w L S T) :
  USteps P n a w (q::L) (x::S) (F::T):=⟨h,b⟩
theorem USteps.nil{n:List VFact}{a:Act}{L:List Oper}:USteps P n a w L [] []:=by cases L<;>trivial
def EO:Nat->List (List (Nat×Nat))->List (List Nat)->List Shape
 |i,e::l,b::j=>⟨e,b,[i]⟩::EO (i+1) l j
 |_,_,_=>[]
theorem Jc:∀{l:List (List (Nat×Nat))} {j:List (List Nat)} {i k:Nat} {x:Shape},(EO i l j)[k]? = some x->x.deps=[i+k]/\l[k]? = some x.env
 |[],_,i,k,x,h=>by simp[EO]at h
 |_::_,[],i,k,x,h=>by simp[EO]at h
 |e::l,b::j,i,0,x,h=>by
  simp only[EO,List.getElem?_cons_zero,Option.some.injEq]at h;subst h;exact⟨rfl,rfl⟩
 |e::l,b::j,i,k+1,x,h=>by
  simp only[EO,List.getElem?_cons_succ]at h;obtain⟨u,A⟩:=Jc h;exact⟨by rw[u];congr 1;omega,by simpa using A⟩
def unF(F:VFact):Fact:=λu w=>match u with | [v]=>F v w | _=>False
theorem usteps_steps{P:Program}{a:Act}{w0:World}{Fs:List VFact}{sh:List Shape}{L0:List Oper}(d:Dp L0 sh=true)(xq:∀(k:Nat) (x:Shape),sh[k]? = some x->x.deps=[k]) :
  ∀{L:List Oper} {l:List (List (Nat×Nat))} {bs:List (List Nat)} {T:List VFact} {i:Nat},(∀k,L[k]? = L0[i+k]?)->(∀k,(EO i l bs)[k]? = sh[i+k]?)->l.length=bs.length->USteps P Fs a w0 L l T ->
   StepsAt P sh (Fs.map unF) a w0 i L (EO i l bs) (T.map unF)
 |L,[],[],[],i,_,_,_,_=>by cases L<;>exact trivial
 |L,[],[],_::_,i,_,_,_,h=>by cases L<;>exact h.elim
 |L,[],_::_,T,i,_,_,N,h=>by simp at N
 |L,_::_,[],T,i,_,_,N,h=>by simp at N
 |[],_::_,_::_,T,i,_,_,_,h=>by cases T<;>exact h.elim
 |_::_,_::_,_::_,[],i,_,_,_,h=>h.elim
 |o::L,e::l,b::bs,F::T,i,U,z,N,h=>Zal
theorem wp_region_u{L:List Oper}(s:P.follows .mixedOrders=true)(l:List (List (Nat×Nat)))(K:List (List Nat))(M:List VFact)
  (o:(l.length==K.length&&l.length==M.length)=true) (T:Dp L (EO 0 l K)=true) (W:Gd L l.length vi.tmps.size=true)
  (V:∀F∈M,∀v B I,Ext B I->F v B->F v I) (Q:USteps P M vi w.drew L l M)
  (S:∀(g:Nat->Value) (O:World),Ext w.drew O->(∀(j:Nat) (F:VFact),M[j]? = some F->F (g j) O)->wpList P L.toArray vL (L.drop l.length) (EM g (L.take l.length) 0 vi) O) :
  (Code.region n L.toArray true).wp P vL vi w:=by
 simp only[Bool.and_eq_true,beq_iff_eq]at o
 have Y:∀(l:List (List (Nat×Nat))) (K:List (List Nat)) (i:Nat),l.length=K.length->(EO i l K).length=l.length:=by
  intro l
  induction l with
  |nil=>intro K i _;cases K<;>rfl
  |cons e l E=>
   intro K i h
   cases K with
   |nil=>simp at h
   |cons b K=>simp[EO,E K (i+1) ZcK]
 have u:=Y l K 0 o.1;refine wp_region_ext s (EO 0 l K) (M.map unF) T (by rw[u];exact W) ?_ ?_ ?_
 .intro F hF A B I a h
  obtain⟨G,y,rfl⟩:=List.mem_map.1 hF;unfold unF at *;split at h
  .rename_i v;exact V G y v B I a h
  .exact h.elim
 .exact Zhb
 .exact Zam
def Stab(F:VFact):Prop:=∀v a C,Ext a C->F v a->F v C
def StabAll:List VFact->Prop
 |[]=>True
 |F::r=>Stab F/\StabAll r
theorem StabAll.cons{F:VFact}{r:List VFact}(h:Stab F)(b:StabAll r):StabAll (F::r):=⟨h,b⟩
theorem StabAll.nil:StabAll []:=trivial
theorem StabAll.mem:∀{n:List VFact},StabAll n->∀F∈n,Stab F
 |[],_,F,h=>by cases h
 |G::r,h,F,hF=>Zan
theorem Stab.eq(u:Value):Stab (λv _=>v=u):=λ_ _ _ _ h=>h
variable{uH:VFact}
theorem AA{v:Value}(h:(execOp uu q).run P w=.ok (.value v) w)(hF:uH v w):OpStep P q uu w λv O=>Ext w O/\uH v O:=by
 unfold OpStep;rw[h];exact⟨Ext.refl _,hF⟩
theorem TH{v:Value}(u:(execOp uu q).run P w=.ok (.value v) h)(X:Ext w h)(hF:uH v h):OpStep P q uu w λv h=>Ext w h/\uH v h:=by
 unfold OpStep;rw[u];exact⟨X,hF⟩
theorem CD{f:FuncId}{R:Ending->World->Prop}(h:(execOp uu q).run P w=.ok (.enter f vz) w)(G:Calls P f vz w R)
  (J:∀e O,R e O->∃v,e=.returned v/\Ext w O/\uH v O):OpStep P q uu w λv O=>Ext w O/\uH v O:=by
 unfold OpStep;rw[h];exact G.mono J
theorem wp_region_v{L:List Oper}(s:P.follows .mixedOrders=true)(l:List (List (Nat×Nat)))(u:List (List Nat))(A:List VFact)
  (o:(l.length==u.length&&l.length==A.length)=true) (T:Dp L (EO 0 l u)=true) (W:Gd L l.length vi.tmps.size=true) (stab:StabAll A) (steps:USteps P A vi w.drew L l A)
  (fin:∀(g:Nat->Value) (O:World),Ext w.drew O->(∀(j:Nat) (F:VFact),A[j]? = some F->F (g j) O)->wpList P L.toArray vL (L.drop l.length) (EM g (L.take l.length) 0 vi) O) :
  (Code.region n L.toArray true).wp P vL vi w:=
 wp_region_u s l u A o T W (λF hF=>stab.mem F hF) steps fin
def BB:Nat:=4294967296
theorem Cp:0<BB:=by decide
theorem Bn:BB=4294967296:=rfl
theorem QS:1<BB:=by decide
def val:List Nat->Nat
 |[]=>0
 |x::l=>x+BB*val l
def Ao(n:Nat):List Nat:=if h:n=0 then[]else(n%BB)::Ao (n/BB)
termination_by n
decreasing_by exact Nat.div_lt_self (Nat.pos_of_ne_zero h) ZbA
def Bt(l:List Nat):Prop:=∀x∈l,x<BB
theorem Br:Ao 0=[]:=by rw[Ao];simp
theorem Ee(h:n≠0):Ao n=(n%BB)::Ao (n/BB):=by rw[Ao];simp[h]
theorem AB(n:Nat):val (Ao n)=n:=by
 induction n using Nat.strongRecOn with
 |_ n u=>
  by_cases h:n=0
  .subst h;rw[Br];rfl
  .rw [Ee h]
   show n%BB+BB*val (Ao (n/BB))=n;rw[u (n/BB) (Nat.div_lt_self (Nat.pos_of_ne_zero h) ZbA)];exact Nat.mod_add_div n BB
theorem BK(n:Nat):Bt (Ao n):=by
 induction n using Nat.strongRecOn with
 |_ n u=>
  by_cases h:n=0
  .subst h;rw[Br];intro x C;cases C
  .rw [Ee h]
   intro x C;rcases List.mem_cons.1 C with rfl | C
   .exact Nat.mod_lt _ Cp
   .exact u (n/BB) (Nat.div_lt_self (Nat.pos_of_ne_zero h) ZbA) x C
theorem GM(l m:List Nat):val (l++m)=val l+BB^l.length*val m:=by
 induction l with
 |nil=>simp[val]
 |cons x l n=>
  simp only[List.cons_append,val,n,List.length_cons,Nat.pow_succ];rw[Nat.mul_add,Nat.add_assoc,Nat.mul_comm (BB^l.length) BB,Nat.mul_assoc]
theorem Dr(h:Bt l):val l<BB^l.length:=by
 induction l with
 |nil=>simp[val]
 |cons x l n=>
  have u:=h x ZbK;have A:=n λy N=>h y (by simp[N]);simp only[val,List.length_cons,Nat.pow_succ];have I:BB*(val l+1)<=BB*BB^l.length:=Nat.mul_le_mul_left _ A;rw[Nat.mul_add,Nat.mul_comm BB (BB^l.length)]at I;omega
def Du:List Nat->List Nat
 |[]=>[]
 |x::l=>match Du l with
  |[]=>if x=0 then[]else[x]
  |y::r=>x::y::r
theorem Yl(l:List Nat):val (Du l)=val l:=by
 induction l with
 |nil=>rfl
 |cons x l n=>
  simp only[Du];split
  .rename_i h
   rw[h]at n;have n:val l=0:=by rw[<-n];rfl
   split
   .subst x;simp[val,n]
   .simp [val,n]
  .rename_i y r h
   rw[h]at n;show x+BB*val (y::r)=x+BB*val l;rw[n]
theorem AW(h:Bt l):Du l=Ao (val l):=by
 induction l with
 |nil=>simp[Du,val,Br]
 |cons x l n=>
  have C:=h x ZbK;have n:=n λy N=>h y (by simp[N]);have W:(x+BB*val l)/BB=val l:=by rw[Nat.add_mul_div_left _ _ Cp,Nat.div_eq_of_lt C];omega
  have s:(x+BB*val l)%BB=x:=by rw[Nat.add_mul_mod_self_left,Nat.mod_eq_of_lt C]
  simp only[Du,val];split
  .rename_i g
   have o:val l=0:=by rw[<-Yl,g];rfl
   split
   .subst x;simp[o,Br]
   .rename_i B
    rw[Ee Zbx,W,s,o,Br]
  .rename_i y r g
   have B:x+BB*val l≠0:=by
    intro e
    have o:val l=0:=by
     have:=Cp;rcases Nat.eq_zero_or_pos (val l)with u | u
     .exact u
     .have:=Nat.mul_pos this u;omega
    rw[o,Br,g]at n;cases n
   rw[Ee B,W,s,<-n,g]
theorem Np(l:List Nat):Du (l++[0])=Du l:=by
 induction l with
 |nil=>simp[Du]
 |cons x l n=>simp only[List.cons_append,Du,n]
theorem Vm(h:n≠0):Du (l++[n])=l++[n]:=by
 induction l with
 |nil=>simp[Du,h]
 |cons y l u=>
  simp only[List.cons_append,Du,u];cases l<;>simp
theorem Gw(l:List Nat):(Du l).length<=l.length:=by
 induction l with
 |nil=>simp[Du]
 |cons x l n=>
  simp only[Du];split
  .split<;>simp
  .rename_i y r h;rw[h]at n;simpa using n
theorem NY{k:Nat}(B:k<l.length)(g:l[k]=0):Du (l.take (k+1))=Du (l.take k):=by
 rw[List.take_succ_eq_append_getElem B,g,Np]
theorem Kn{k:Nat}(B:k<l.length)(g:l[k]≠0):Du (l.take (k+1))=l.take (k+1):=by
 rw[List.take_succ_eq_append_getElem B,Vm g]
def Words(w:World)(v:Value)(l:List Nat):Prop:=
 ∃(A:Option Addr) (c:Nat),v=.slice A l.length c/\l.length<=c/\c<=9223372036854775807/\Bt l /\
  (0<l.length->∃(b o:Nat) (Z:Array Value) (G:Nat×Nat),A=some ⟨b,o,none⟩/\w.heap[b]? = some (.cells Z 335 G)/\∀i,(K:i<l.length)->Z[o+i]? = some (.int .u32 (l[i]:Nat)))
theorem Bj{o:Obj}(h:w.heap[n]? = some o):n<w.heap.size:=(Array.getElem?_eq_some_iff.1 h).1
theorem Words.ext{v:Value}(u:Words w v l)(a:Ext w h):Words h v l:=by
 obtain⟨A,c,F,G,s,B,C⟩:=u;refine⟨A,c,F,G,s,B,λL=>?_⟩;obtain⟨b,o,Z,I,N,E,K⟩:=C L;exact⟨b,o,Z,I,N,(a.block (Bj E)).trans E,K⟩
theorem Words.small{v:Value}(h:Words w v l):Bt l:=by
 obtain⟨_,_,_,_,_,b,_⟩:=h;exact b
theorem Words.nil(w:World)(A:Option Addr)(c:Nat)(G:c<=9223372036854775807):Words w (.slice A 0 c) []:=⟨A,c,rfl,Nat.zero_le _,G,(λx C=>by cases C),(λh=>by cases h)⟩
theorem CH{b o:Nat}{G:Nat×Nat}(h:w.heap[b]? = some (.cells vz t G)):w.cell? ⟨b,o,none⟩=vz[o]?:=by simp[World.cell?,h]
theorem Words.open_{v:Value}(h:Words w v l):∃(A:Option Addr) (c:Nat),v=.slice A l.length c/\l.length<=c/\c<=9223372036854775807 /\
  (0<l.length->∃(b o:Nat),A=some ⟨b,o,none⟩/\b<w.heap.size/\∀i,i<l.length->w.cell? ⟨b,o+i,none⟩=some (.int .u32 (l.getD i 0:Nat))):=by
 obtain⟨A,c,B,G,s,u,C⟩:=h;refine⟨A,c,B,G,s,λL=>?_⟩;obtain⟨b,o,Z,F,N,E,K⟩:=C L;exact⟨b,o,N,Bj E,λi x=>by rw[CH E,K i x];simp[x]⟩
theorem Words.take{c:Nat}(h:Words w (.slice uB l.length c) l){k:Nat}(B:k<=l.length):Words w (.slice uB k c) (l.take k):=by
 obtain⟨O,r,M,G,s,A,C⟩:=h;injection M with u _ I
 subst u;subst I;have L:(l.take k).length=k:=by simp[B]
 refine⟨uB,c,by rw[L],by omega,s,λx C=>A x (List.mem_of_mem_take C),λF=>?_⟩;obtain⟨b,o,Z,N,Q,E,K⟩:=C Zbx;exact⟨b,o,Z,N,Q,E,λi R=>by rw[K i Zbx];simp⟩
def wv(l:List Nat):Array Value:=(l.map λx=>Value.int .u32 (x:Nat)).toArray
theorem A2c(l:List Nat):(wv l).size=l.length:=by simp[wv]
theorem A07(h:n<l.length):(wv l)[n]? = some (.int .u32 (l[n]:Nat)):=by simp[wv,h]
theorem Dn(h:n<l.length):(wv l)[n]? = some (.int .u32 (l.getD n 0:Nat)):=by simp[wv,h]
theorem HJ(l:List Nat)(i x:Nat):(wv l).setIfInBounds i (.int .u32 (x:Nat))=wv (l.set i x):=by simp[wv,List.map_set]
def Blk(w:World)(g:Nat)(t:TypeId)(Z:Array Value):Prop:=w.heap[g]? = some (.cells Z t (0,0))
theorem Blk.lt{g:Nat}(h:Blk w g t vz):g<w.heap.size:=Bj h
theorem Blk.cell{g:Nat}(h:Blk w g t vz)(i:Nat):w.cell? ⟨g,i,none⟩=vz[i]?:=CH h
theorem Blk.frozen(h:Blk w n t vz)(i:Nat):w.frozen? ⟨n,i,none⟩=false:=by
 unfold Blk at h;simp[World.frozen?,h]
theorem Blk.new(w:World)(t:TypeId)(Z:Array Value):Blk (w.alloc (.cells Z t)) w.heap.size t Z:=heap_alloc_new w _
theorem ER{b:Nat}(t:TypeId)(Z:Array Value)(h:b=w.heap.size):Blk (w.alloc (.cells Z t)) b t Z:=h▸Blk.new w t Z
theorem Blk.drew{g:Nat}(h:Blk w g t vz):Blk w.drew g t vz:=h
theorem Blk.alloc{g:Nat}(h:Blk w g t vz)(o:Obj):Blk (w.alloc o) g t vz:=(Below.heap_alloc w o g h.lt).trans h
theorem Blk.set{g:Nat}(h:Blk w g t vz)(i:Nat)(u:Value):Blk (w.setCell ⟨g,i,none⟩ u) g t (vz.setIfInBounds i u):=by
 unfold Blk at h ⊢;simp[World.setCell,Array.getElem?_modify,h]
theorem Blk.far(h:Blk w n t vz){p:Addr}(F:n≠p.block)(u:Value):Blk (w.setCell p u) n t vz:=(Below.heap_setCell w p u n F).trans h
theorem Blk.ext{g:Nat}(u:Blk w g t vz)(a:Ext w h):Blk h g t vz:=(a.block u.lt).trans u
theorem Ck{c:Nat}(h:Blk w n 335 (wv l))(b:Bt l)(G:l.length<=c)(s:c<=9223372036854775807):Words w (.slice (some ⟨n,0,none⟩) l.length c) l:=
 ⟨_,c,rfl,G,s,b,λ_=>⟨n,0,_,_,rfl,h,λi K=>by rw[Nat.zero_add];exact A07 K⟩⟩
def Ty(w:World)(b:Nat)(t:TypeId):Prop:=∃Z G,w.heap[b]? = some (.cells Z t G)
theorem Ty.ext{b:Nat}(u:Ty w b t)(a:Ext w h):Ty h b t:=by
 obtain⟨Z,G,u⟩:=u;exact⟨Z,G,(a.block (Bj u)).trans u⟩
theorem Ty.set{b:Nat}(h:Ty w b t)(p:Addr)(u:Value):Ty (w.setCell p u) b t:=by
 obtain⟨Z,G,h⟩:=h;by_cases E:b=p.block
 .subst E
  exact⟨_,G,by simp[World.setCell,Array.getElem?_modify,h];rfl⟩
 .exact ⟨Z,G,(Below.heap_setCell w p u b E).trans h⟩
theorem Ty.new(w:World)(Z:Array Value)(t:TypeId):Ty (w.alloc (.cells Z t)) w.heap.size t:=⟨Z,_,heap_alloc_new w _⟩
theorem EU(Z:Array Value)(t:TypeId)(h:n=w.heap.size):Ty (w.alloc (.cells Z t)) n t:=h▸Ty.new w Z t
theorem Ty.drew{b:Nat}(h:Ty w b t):Ty w.drew b t:=h
theorem Ty.alloc{b:Nat}(h:Ty w b t)(o:Obj):Ty (w.alloc o) b t:=h.ext ((Ext.refl _).alloc o)
theorem Ext.set(A:Ext w h){p:Addr}(F:w.heap.size<=p.block)(u:Value):Ext w (h.setCell p u):=Below.setCell A F u
theorem Words.set{v:Value}(h:Words w v l){p:Addr}(M:Ty w p.block t)(I:t≠335)(u:Value):Words (w.setCell p u) v l:=by
 obtain⟨A,c,F,G,s,B,C⟩:=h;refine⟨A,c,F,G,s,B,λL=>?_⟩;obtain⟨b,o,Z,N,Q,E,K⟩:=C L
 have V:b≠p.block:=by
  rintro rfl;obtain⟨O,R,d⟩:=M;rw[E]at d;injection d with d
  injection d with _ S
  exact I S.symm
 exact⟨b,o,Z,N,Q,(Below.heap_setCell w p u b V).trans E,K⟩
theorem Qh(h:n<l.length):val (l.take (n+1))=val (l.take n)+BB^n*l.getD n 0:=by
 rw[List.take_succ_eq_append_getElem h,GM];simp[val,h,Nat.min_eq_left (Nat.le_of_lt h)]
theorem Tp(h:l.length<=n):val (l.take (n+1))=val (l.take n)+BB^n*l.getD n 0:=by
 rw[List.take_of_length_le h,List.take_of_length_le Zbx];simp[h]
theorem AO(l:List Nat)(k:Nat):val (l.take (k+1))=val (l.take k)+BB^k*l.getD k 0:=by
 rcases Nat.lt_or_ge k l.length with h | h
 .exact Qh h
 .exact Tp h
theorem CQ:(l.set n b).take n=l.take n:=by
 rw[List.take_set,List.set_eq_of_length_le (by rw[List.length_take];omega)]
theorem BS{k x:Nat}(h:k<l.length):(l.set k x).getD k 0=x:=by simp[h]
theorem AK(h:Bt l)(k:Nat):l.getD k 0<BB:=by
 rcases Nat.lt_or_ge k l.length with B | B
 .simp only[List.getD_eq_getElem?_getD,List.getElem?_eq_getElem B,Option.getD_some]
  exact h _ (List.getElem_mem B)
 .simp [B,Cp]
theorem CN(h:Bt l)(k:Nat)(C:n<BB):Bt (l.set k n):=λy N=>by
 rcases List.mem_or_eq_of_mem_set N with u | u
 .exact h y u
 .rw [u];exact C
theorem BW(n:Nat):Bt (List.replicate n 0):=λx C=>by
 rw[List.eq_of_mem_replicate C];exact Cp
theorem Yx(B:n<vm.length)(C:l.getD n 0=T)(N:f.getD n 0=m)(d:T<BB)(u:m<BB)(G:b<=1)
  (h:val (vm.take n)+BB^n*b=val (l.take n)+val (f.take n)) :
  val ((vm.set n ((T+b+m)%BB)).take (n+1))+BB^(n+1)*((T+b+m)/BB)=val (l.take (n+1))+val (f.take (n+1))/\(T+b+m)/BB<=1:=by
 constructor
 .rw [AO,CQ,BS B,AO l,AO f,C,N]
  have e:=Nat.mod_add_div (T+b+m) BB
  have v:BB^n*((T+b+m)%BB)+BB^(n+1)*((T+b+m)/BB)=BB^n*(T+b+m):=by
   rw[Nat.pow_succ,Nat.mul_assoc,<-Nat.mul_add,e]
  have U:BB^n*(T+b+m)=BB^n*T+BB^n*b+BB^n*m:=by rw[Nat.mul_add,Nat.mul_add]
  omega
 .have:T+b+m<2*BB:=by omega
  have:=Nat.div_lt_of_lt_mul (show T+b+m<BB*2 by omega);omega
theorem Dt(v:Value)(l:List Nat)(w:World)(h:Words w v l) :
  Calls Tryz.prog 287 #[v] w λe O=>∃R,e=.returned R/\Words O R (Du l)/\Ext w O:=by
 obtain⟨A,c,rfl,G,s,C⟩:=h.open_;have H:=Ae h;have F:=Ae h.small;clear h;have N:=Ae C;clear C;obtain⟨n,K⟩:∃n,n=l.length:=⟨_,rfl⟩;rw[<-K]at G ⊢;have X:=Ae K;clear K;go_enter Tryz.func287,Tryz.ntmps287;go_wp2;go_loop [3] (λt=>∃k:Nat,k<=n/\t=.int .i64 k/\Hid (Du l=Du (l.take k))) (λt=>(intOf t).toNat)
 case atStart=>exact Zhc
 case round=>
  exact Zao
theorem Ce(n:Nat)(h:n<=70368744177664)(e f:IntKind)(W:World) :
  (Instr.makeSlice 107 (.int e (n:Int)) (.int f (n:Int))).run Tryz.prog W=.ok (.slice (some ⟨W.heap.size,0,none⟩) n n) (W.alloc (.cells (wv (List.replicate n 0)) 335)):=by
 obtain⟨i,K,s,U,u⟩:=info_parts (show(Tryz.prog.info? 335).map (λi=>(i.zero,i.size,i.bytes))=some (some (.int .u32 0),1,4)by kernel_rfl);have E:(i.bytes:Int)*(n:Int)<=281474976710656:=by rw[u];omega
 have Y:=run_make (P:=Tryz.prog) W 107 335 i (.int .u32 0) Tryz.underlying107 K s e f n n Zbx Zbx E Zbx;simp only[Int.toNat_natCast]at Y;rw[Y]
 have:madeCells (Value.int .u32 0).cells (n*i.size)=wv (List.replicate n 0):=by
  apply Array.ext';rw[U,Nat.mul_one];show(madeCells #[Value.int .u32 0] n).toList=_;rw[toList_madeCells_one];simp[wv]
 rw[this]
def A6C(w wr:World)(O u r:List Nat)(n k L:Nat):Prop:=
 r.length=n+1/\Bt r/\Blk wr w.heap.size 335 (wv r)/\val (r.take k)+BB^k*L=val (O.take k)+val (u.take k)/\Ext w wr
def DifRel(w wr:World)(O u r:List Nat)(n k L:Nat):Prop:=
 r.length=n/\Bt r/\Blk wr w.heap.size 335 (wv r)/\val (r.take k)+val (u.take k)=val (O.take k)+BB^k*L/\Ext w wr
theorem DifRel.step{O R r:List Nat}{n k L x y:Nat}(A:DifRel w h O R r n k L)(E:k<n)(F:O.getD k 0=x)(N:R.getD k 0=y)(S:x<4294967296)(W:y<4294967296)(G:L<=1){u z:Int}
  (M:u=(x+BB*(if x<L+y then 1 else 0)-L-y:Nat)) (K:z=(if x<L+y then 1 else 0:Nat)) :
  ∃(X Q:Nat) (c:List Nat),X<=n/\Value.int .i64 ((k:Int)+1)=.int .i64 X/\Value.int .u64 z=.int .u64 Q/\Q<=1/\Hid (DifRel w (h.setCell ⟨w.heap.size,k,none⟩ (.int .u32 u)) O R c n X Q):=by
 obtain⟨B,C,I,V,m⟩:=A;have j:(if x<L+y then 1 else 0:Nat)<=1:=by split<;>omega
 have Y:x+BB*(if x<L+y then 1 else 0)-L-y<BB:=by rw[Bn];split<;>omega
 have Z:x+BB*(if x<L+y then 1 else 0)-L-y+y+L=x+BB*(if x<L+y then 1 else 0):=by rw[Bn];split<;>omega
 generalize (if x<L+y then 1 else 0:Nat)=Q at *;generalize x+BB*Q-L-y=q at *;refine⟨k+1,Q,r.set k q,E,by simp,by rw[K],j,by simpa using B,CN C k Y,?_,?_,Below.setCell m (Nat.le_refl _) _⟩
 .rw [M,<-HJ]
  exact I.set k _
 .rw [AO, CQ, BS Zbx, AO O, AO R, F, N]
  have d:BB^k*q+BB^k*y+BB^k*L=BB^k*x+BB^(k+1)*Q:=by
   rw[Nat.pow_succ,Nat.mul_assoc,<-Nat.mul_add,<-Nat.mul_add,<-Nat.mul_add,Z]
  omega
theorem DifRel.close{O k r:List Nat}(u:DifRel w h O k r n n b)(C:O.length=n)(s:k.length<=n)(o:val k<=val O):val r=val O-val k:=by
 obtain⟨A,B,I,V,m⟩:=u;have z:O.take n=O:=List.take_of_length_le Zbx;have E:k.take n=k:=List.take_of_length_le s;have H:r.take n=r:=List.take_of_length_le Zbx;rw[z,E,H]at V;have Q:=Dr B;rw[A]at Q;rcases Nat.eq_zero_or_pos b with g | g
 .subst g;omega
 .have:BB^n*1<=BB^n*b:=Nat.mul_le_mul_left _ g
  omega
theorem KV:∀{r:List Nat} {p q z:Nat},p<q->p<r.length->val ((r.set p z).take q)+BB^p*r.getD p 0=val (r.take q)+BB^p*z
 |[],p,q,z,_,h=>by simp at h
 |x::r,0,q+1,z,_,_=>by simp[val];omega
 |x::r,p+1,q+1,z,F,L=>by
  have n:=KV (r:=r) (p:=p) (q:=q) (z:=z) Zbx (by simpa using L);simp only[List.set_cons_succ,List.take_succ_cons,val,List.getD_cons_succ,Nat.pow_succ];have d:BB^p*BB*r.getD p 0=BB*(BB^p*r.getD p 0):=by rw[Nat.mul_comm (BB^p) BB,Nat.mul_assoc]
  have v:BB^p*BB*z=BB*(BB^p*z):=by rw[Nat.mul_comm (BB^p) BB,Nat.mul_assoc]
  rw[d,v,Nat.add_assoc,<-Nat.mul_add,n,Nat.mul_add,Nat.add_assoc]
def WR(w wr:World)(O u r:List Nat)(n m k:Nat):Prop:=
 r.length=n+m/\Bt r/\Blk wr w.heap.size 335 (wv r)/\val (r.take (k+m))=val (O.take k)*val u/\Ext w wr
def MulIn(w wr:World)(O u r:List Nat)(n m k j x L:Nat):Prop:=
 r.length=n+m/\Bt r/\Blk wr w.heap.size 335 (wv r)/\val (r.take (k+m))+BB^(k+j)*L=val (O.take k)*val u+BB^k*(x*val (u.take j))/\Ext w wr
theorem MulIn.drewN{O A r:List Nat}{n m k j x L:Nat}(u:MulIn w h O A r n m k j x L)(q:Nat):MulIn w (h.drewN q) O A r n m k j x L:=
 ⟨u.1,u.2.1,u.2.2.1,u.2.2.2.1,u.2.2.2.2.drewN q⟩
theorem EI{x y:Nat}(C:x<4294967296)(N:y<4294967296):x*y<=18446744065119617025:=
 Nat.le_trans (Nat.mul_le_mul (Nat.le_of_lt_succ C) (Nat.le_of_lt_succ N)) ZbA
theorem MulIn.step{S X r:List Nat}{n m k j x y z Q:Nat}(A:MulIn w h S X r n m k j x Q)(i:j<m)(E:k<n)(N:X.getD j 0=y)(O:r.getD (k+j) 0=z)(d:x<4294967296)(a:y<4294967296)(b:z<4294967296)(G:Q<4294967296){u v:Int}
  (R:u=((x*y+z+Q)%BB:Nat)) (o:v=((x*y+z+Q)/BB:Nat)) :
  ∃(J W:Nat) (c:List Nat),J<=m/\Value.int .i64 ((j:Int)+1)=.int .i64 J/\Value.int .u64 v=.int .u64 W/\W<4294967296/\Hid (MulIn w (h.setCell ⟨w.heap.size,k+j,none⟩ (.int .u32 u)) S X c n m k J x W):=by
 obtain⟨B,C,I,V,K⟩:=A;have F:=EI d a;have M:(x*y+z+Q)/BB<4294967296:=by rw[Bn];omega
 refine⟨j+1,(x*y+z+Q)/BB,r.set (k+j) ((x*y+z+Q)%BB),i,by simp,by rw[o],M,by simpa using B,CN C _ (Nat.mod_lt _ Cp),?_,?_,Below.setCell K (Nat.le_refl _) _⟩
 .rw [R,<-HJ]
  exact I.set _ _
 .have e:=KV (r:=r) (p:=k+j) (q:=k+m) (z:=(x*y+z+Q)%BB) Zbx Zbx
  rw[O]at e;have L:=Nat.mod_add_div (x*y+z+Q) BB
  have U:BB^(k+j)*((x*y+z+Q)%BB)+BB^(k+(j+1))*((x*y+z+Q)/BB)=BB^(k+j)*(x*y+z+Q):=by
   rw[<-Nat.add_assoc,Nat.pow_succ,Nat.mul_assoc,<-Nat.mul_add,L]
  have Y:BB^(k+j)*(x*y+z+Q)=BB^(k+j)*(x*y)+BB^(k+j)*z+BB^(k+j)*Q:=by rw[Nat.mul_add,Nat.mul_add]
  have Z:BB^k*(x*val (X.take (j+1)))=BB^k*(x*val (X.take j))+BB^(k+j)*(x*y):=by
   rw[AO,N,Nat.mul_add x,Nat.mul_add (BB^k),Nat.pow_add];congr 1;rw[Nat.mul_assoc,Nat.mul_left_comm x,Nat.mul_left_comm (BB^j)]
  omega
theorem MulIn.close{O K r:List Nat}{n m k x L:Nat}(u:MulIn w h O K r n m k m x L)(C:k<n)(s:K.length=m)(E:O.getD k 0=x)(G:L<4294967296) :
  WR w (h.setCell ⟨w.heap.size,k+m,none⟩ (.int .u32 (L:Int))) O K (r.set (k+m) L) n m (k+1):=by
 obtain⟨A,B,I,V,F⟩:=u;have H:K.take m=K:=List.take_of_length_le Zbx;rw[H]at V;refine⟨by simpa using A,CN B _ (by rw[Bn];exact G),?_,?_,Below.setCell F (Nat.le_refl _) _⟩
 .rw [<-HJ];exact I.set _ _
 .rw [show k+1+m=k+m+1 by omega,AO,CQ,BS Zbx,V,AO O,E,Nat.add_mul,Nat.mul_assoc]
theorem Tw(T vb:Value)(Z g:List Nat)(w:World)(t:Words w T Z)(F:Words w vb g)(h:Z.length<=4398046511104)(s:g.length<=4398046511104) :
  Calls Tryz.prog 316 #[T,vb] w λe O=>∃a,e=.returned a/\Words O a (Ao (val Z*val g))/\Ext w O:=by
 obtain⟨A,c,rfl,I,xk,E⟩:=t.open_;obtain⟨B,d,rfl,K,xo,N⟩:=F.open_;have xg:=Ae t.small;have xl:=Ae F.small;clear t F;have hA:=Ae E;have hB:=Ae N;clear E N;obtain⟨n,p⟩:∃n,n=Z.length:=⟨_,rfl⟩;obtain⟨m,U⟩:∃m,m=g.length:=⟨_,rfl⟩;rw[<-p]at I h ⊢;rw[<-U]at K s ⊢;replace p:=Ae p;replace U:=Ae U;have xj:=λW=>Ce (n+m) Zbx .i64 .i64 W;simp only[Int.natCast_add]at xj;go_enter Tryz.func316,Tryz.ntmps316;go_wp2;go_loopw [19] (λi wr=>∃(k:Nat) (r:List Nat),k<=n/\i=.int .i64 k/\Hid (WR w wr Z g r n m k)) (λi _=>n-(intOf i).toNat)
 case atStart => exact ⟨0, List.replicate (n + m) 0, Nat.zero_le _, rfl, by simp, BW _, Blk.new _ _ _, by
  have:∀q,val (List.replicate q 0)=0:=λq=>by
   induction q with
   |zero=>rfl
   |succ q l=>simp[List.replicate_succ,val,l]
  simp[val,List.take_replicate,this],(Ext.refl _).alloc _⟩
 case round=>
  obtain⟨k,r,C,rfl,J⟩:=hrel;by_cases Q:k<n
  .obtain ⟨b, o, rfl, F, H⟩:=hA.out (by rw [<-p.out]; omega)
   replace H:=(J.out.2.2.2.2.cell (p:=⟨b,o+k,none⟩) F).trans (H k ZdM);have xc:=AK xg.out k;generalize E:Z.getD k 0=x at *;replace E:=Ae E;unfold BB at xc;go_wp2;obtain⟨wo,rfl⟩:∃wo:World,wo=wr:=⟨_,rfl⟩;go_loopw [7,29] (λcy i wr=>∃(j Y:Nat) (r:List Nat),j<=m/\i=.int .i64 j/\cy=.int .u64 Y/\Y<4294967296/\Hid (MulIn w wr Z g r n m k j x Y)) (λ_ i _=>m-(intOf i).toNat)
   case atStart=>exact Zhd
   case round=>
    obtain⟨j,Y,r,L,rfl,rfl,xh,f⟩:=hrel;by_cases xn:j<m
    .obtain ⟨S, M, rfl, P, xm⟩:=hB.out (by rw [<-U.out]; omega)
     replace xm:=(f.out.2.2.2.2.cell (p:=⟨S,M+j,none⟩) P).trans (xm j Zes);have xe:=AK xl.out j;have xf:=AK f.out.2.1 (k+j);have R:wr.cell? ⟨w.heap.size,k+j,none⟩=some (.int .u32 (r.getD (k+j) 0:Nat)):=by rw[f.out.2.2.1.cell,Dn (by rw[f.out.1];omega)]
     have xd:=f.out.2.2.1.frozen (k+j);generalize N:g.getD j 0=y at *;generalize V:r.getD (k+j) 0=z at *;replace N:=Ae N;replace V:=Ae V;unfold BB at xe xf;have G:(x:Int)*y<=18446744065119617025:=by have:=EI xc xe;omega
     have xi:(0:Int)<=(x:Int)*y:=Int.mul_nonneg Zbx Zbx;go_wp2;go_quiet (fail);go_wp2;exact⟨(f.out.drewN nq).step xn Q N.out V.out xc xe xf xh Zcr Zcr,by simp[intOf];omega⟩
    .obtain rfl:j=m:=by omega
     have R:wr.cell? ⟨w.heap.size,k+j,none⟩=some (.int .u32 (r.getD (k+j) 0:Nat)):=by rw[f.out.2.2.1.cell,Dn (by rw[f.out.1];omega)]
     have xd:=f.out.2.2.1.frozen (k+j);have xb:=Ae (f.out.close Q U.out.symm E.out xh);go_wp2;exact⟨⟨k+1,_,Q,by simp,xb⟩,by simp[intOf];omega⟩
  .obtain rfl:k=n:=by omega
   have v:Hid (Words wr (.slice (some ⟨w.heap.size,0,none⟩) (k+m) (k+m)) r):=by
    exact ZgE
   have xb:Hid (val r=val Z*val g):=by
    have u:=J.out.2.2.2.1;have er:r.take (k+m)=r:=List.take_of_length_le Zcb;have ea:Z.take k=Z:=List.take_of_length_le ZdM;rw[er,ea]at u;exact u
   go_wp2_with (go_at_call 287;refine(Dt _ _ _ v.out).mono ?_;rintro e O ⟨a,rfl,xa,X⟩);go_ret;refine⟨a,rfl,?_,J.out.2.2.2.2.trans X⟩;rw[AW J.out.2.1,xb.out]at xa;exact xa
theorem Qj(h:w.ownsRow n 335 1 z b (wv l).toList)(B:Bt l):Words w z l:=by
 obtain⟨u,A⟩:=h;have L:l.length=b:=by simpa[wv]using u
 rcases A with⟨rfl,rfl⟩ | ⟨g,cap,cur,rfl,_,hg,hc,hm,hsz,ht⟩
 .have:l=[]:=List.eq_nil_of_length_eq_zero L
  subst this;exact Words.nil _ _ _ Zbx
 .subst L
  refine⟨_,cap,rfl,hc,by simpa[maxLen]using hm,B,λ_=>⟨g,0,cur,(0,0),rfl,hg,λi K=>?_⟩⟩;have:(cur.toList.take (l.length*1))[i]? = (wv l).toList[i]?:=by rw[ht]
  rw[List.getElem?_take,if_pos Zbx]at this;have v:=A07 K;rw[Nat.zero_add];simpa[v]using this
theorem Kz(w:World)(t q e:TypeId)(i:TypeInfo)(M:P.underlying t=some (.slice e))(K:P.info? e=some i)(c:Nat) :
  (Builtin.append_ #[t,t] q #[.slice none 0 0,.slice none 0 c]).run P w=.ok (.slice none 0 0) w:=by
 simp[Builtin.append_,run_underlying M,sizeOf,typeInfo,K,Builtin.lenOf,Builtin.firstCells]
theorem VY(b o j:Nat):Addr.add ⟨b,o,none⟩ j=⟨b,o+j,none⟩:=by
 unfold Addr.add;split
 .rename_i h;subst h;rfl
 .rfl
theorem Fj{rest:List Oper}(W:q.guard=none)(s x:Operand)(t:TypeId)
  (n:q.op=.call { callee:=.builtin .append,args:=#[s,x],argTypes:=#[t,t] }) (v u:Value) (b:vi.eval s=v) (C:vi.eval x=u)
  (B:(Builtin.append_ #[t,t] q.type #[v,u]).run P w=.ok z h) (A:wpList P ud vL rest (vi.put q.dst z) h):wpList P ud vL (q::rest) vi w:=by
 refine wpList_plain W λK p=>?_;unfold Oper.wp execOp;simp only[n,resolve,invoke,builtin,Sem.run_bind,Sem.run_pure,Result.andThen_ok,List.map_toArray,List.map_cons,List.map_nil,b,C,B];exact p _ _ A
theorem Nq(h:Words w (.slice uB l.length n) l)(E:l.length<=35184372088832) :
  ∃R O,(Builtin.append_ #[107,107] 107 #[.slice none 0 0,.slice uB l.length n]).run Tryz.prog w=.ok R O/\Words O R l/\Ext w O:=by
 obtain⟨i,K,X,a,e⟩:=info_parts (show(Tryz.prog.info? 335).map (λi=>(i.zero,i.size,i.bytes))=some (some (.int .u32 0),1,4)by kernel_rfl);have B:=h.small;obtain⟨k,r,M,G,s,C⟩:=h.open_;injection M with A _ I
 subst A;subst I
 cases uB with
 |none=>
  have L:l.length=0:=by
   rcases Nat.eq_zero_or_pos l.length with g | g
   .exact g
   .obtain ⟨b,o,V,_⟩:=C g;cases V
  have:l=[]:=List.eq_nil_of_length_eq_zero L;subst this;exact⟨_,_,Kz w _ _ _ i Tryz.underlying107 K n,Words.nil _ _ _ Zbx,Ext.refl _⟩
 |some f=>
  have c:∀(j:Nat) (u:Value),(wv l).toList[j]? = some u->w.cell? (f.add j)=some u:=by
   intro j u Q
   have F:j<l.length:=by
    have:=(List.getElem?_eq_some_iff.1 Q).1;simpa[wv]using this
   obtain⟨b,o,V,_,S⟩:=C Zbx;have m:=Option.some.inj V;subst m;have d:=S j F;have v:=Dn F
   have U:u=.int .u32 (l.getD j 0:Nat):=by
    rw[Array.getElem?_toList,v]at Q;exact(Option.some.inj Q).symm
   rw[U,<-d,VY]
  have Z:∀u∈(wv l).toList,u.oneCell'=true:=by
   intro u Q;have Y:u∈l.map λx=>Value.int .u32 (x:Nat):=by simpa[wv]using Q
   obtain⟨x,_,rfl⟩:=List.mem_map.1 Y;rfl
  obtain ⟨R, O, q, W, N, _⟩ := run_append_own (P := Tryz.prog) w w.heap.size 107 107 335 i (.int .u32 0) 1 4 Tryz.underlying107 K X a e rfl Zbx
   (.slice none 0 0) 0 [] ⟨by simp,.inl ⟨rfl,rfl⟩⟩ f l.length n (wv l).toList (by simp[wv]) c Z ZdR Zbx (Nat.le_refl _)
  refine⟨R,O,q,?_,?_⟩
  .rw [List.nil_append]at W
   exact Qj W B
  .exact (Ext.refl w).trans ((Below.refl _ _).grown N (Nat.le_refl _) (by simp[Value.ownBlock]))
theorem JT(v:Value)(l:List Nat)(w:World)(h:Words w v l)(u:l.length<=35184372088832) :
  Calls Tryz.prog 317 #[v] w λe O=>∃R,e=.returned R/\Words O R l/\Ext w O:=by
 obtain⟨A,c,rfl,G,s,C⟩:=h.open_;obtain⟨R,O,q,x,X⟩:=Nq h u;replace q:=Ae q;clear C h;go_enter Tryz.func317,Tryz.ntmps317;go_wp2_with (at_builtin;refine Fj rfl _ _ _ rfl _ _ rfl rfl q.out ?_);go_ret;exact⟨R,rfl,x,X⟩
theorem LU(m:Nat)(w:World)(s:m<18446744073709551616) :
  Calls Tryz.prog 237 #[.int .u64 m] w λe O=>∃R,e=.returned R/\Words O R (Ao m)/\Ext w O:=by
 have u:Words (w.alloc (.cells (wv [m%BB,m/BB]) 335)) (.slice (some ⟨w.heap.size,0,none⟩) 2 2) [m%BB,m/BB]:=
  Ck (l:=[m%BB,m/BB]) (c:=2) (Blk.new _ _ _) (λx C=>by
   simp at C;rcases C with rfl | rfl
   .exact Nat.mod_lt _ Cp
   .exact Nat.div_lt_of_lt_mul Zcr) ZbK Zbx
 have o:Hid (val [m%BB,m/BB]=m):=by
  show m%BB+BB*(m/BB+BB*0)=m;exact ZgI
 have d:Hid ((w.alloc (.cells (wv [m%BB,m/BB]) 335))=w.alloc (.cells #[.int .u32 ((m:Int)%4294967296),.int .u32 ((m:Int)/4294967296)] 335)):=by
  simp[wv,Bn,Hid]
 have Y:=Ae u;have l:=Ae u.small;rw[d.out]at Y;clear u;go_enter Tryz.func237,Tryz.ntmps237;go_wp2_with fail;refine(Dt _ _ _ Y.out).mono ?_;rintro e O ⟨R,rfl,G,X⟩;go_wp2;go_ret;refine⟨R,rfl,?_,((Ext.refl _).alloc _).trans X⟩;rw[AW l.out,o.out]at G;exact G
theorem QT(a:Nat)(t:a<18446744073709551616):(BitVec.ofInt 64 (a:Int)).toNat=a:=by
 rw[BitVec.ofInt_natCast,BitVec.toNat_ofNat];exact Nat.mod_eq_of_lt t
theorem OF{q x:Nat}(z:q<4294967296)(C:x<4294967296):bits .or .u64 (q:Int) ((x:Int)*4294967296)=((q+x*4294967296:Nat):Int):=by
 have u:((x:Int)*4294967296)=((x*4294967296:Nat):Int):=by omega
 have A:q ||| (x*4294967296)=q+x*4294967296:=by
  have:=Nat.shiftLeft_add_eq_or_of_lt (i:=32) (b:=q) Zbx x;rw[Nat.shiftLeft_eq,show(2:Nat)^32=4294967296 from rfl]at this;rw[Nat.or_comm];omega
 rw[u];show IntKind.u64.wrap ((BitVec.ofInt 64 (q:Int) ||| BitVec.ofInt 64 ((x*4294967296:Nat):Int)).toNat:Int)=_;rw[BitVec.toNat_or,QT q Zbx,QT _ Zbx,IntKind.wrap_u64,A];omega
theorem Qx(v:Value)(l:List Nat)(w:World)(h:Words w v l)(L:l.length<=2) :
  Calls Tryz.prog 318 #[v] w λe O=>e=.returned (.int .u64 (val l:Nat))/\Ext w O:=by
 obtain⟨A,c,rfl,G,s,E⟩:=h.open_;have K:=Ae h.small;clear h;have R:=Ae E;clear E;obtain⟨n,M⟩:∃n,n=l.length:=⟨_,rfl⟩;rw[<-M]at G L ⊢;replace M:=Ae M;go_enter Tryz.func318,Tryz.ntmps318;go_wp2;go_loop [3,7] (λt i=>∃(k q:Nat),k<=n/\i=.int .i64 k/\t=.int .u64 q/\Hid (q=val (l.take k))) (λ_ i=>n-(intOf i).toNat)
 case atStart=>exact⟨0,0,Nat.zero_le _,rfl,rfl,rfl⟩
 case round=>
  obtain⟨k,q,C,rfl,rfl,z⟩:=hrel;by_cases Q:k<n
  .obtain ⟨b, o, rfl, F, N⟩:=R.out (by rw [<-M.out]; omega)
   replace N:=N k Zds;have d:=AK K.out k;have V:=Ae (AO l k);generalize E:l.getD k 0=x at *;replace E:=Ae E;unfold BB at d;have W:k=0\/k=1:=by omega
   rcases W with rfl | rfl
   .obtain rfl:q=0:=by rw [z.out];rfl
    simp only[Nat.add_zero]at N;go_wp2;refine⟨⟨1,x,by omega,rfl,?_,?_⟩,by simp[intOf];omega⟩
    .have u:=OF (q:=x) (x:=0) d Zbx
     have B:bits .or .u64 0 (x:Int)=bits .or .u64 (x:Int) 0:=by
      show IntKind.u64.wrap ((BitVec.ofInt 64 0 ||| BitVec.ofInt 64 (x:Int)).toNat:Int)=IntKind.u64.wrap ((BitVec.ofInt 64 (x:Int) ||| BitVec.ofInt 64 0).toNat:Int);rw[BitVec.or_comm]
     have I:bits .or .u64 (x:Int) 0=x:=Zhe
     rw[B,I]
    .have:=V.out
     rw[<-z.out]at this;simpa[Hid]using this.symm
   .have S:q<4294967296:=by
     rw[z.out];have u:=AO l 0;have B:=AK K.out 0;simp[val]at u;rw[u];simpa[Bn]using B
    go_wp2;refine⟨⟨2,q+BB*x,by omega,rfl,?_,?_⟩,by simp[intOf];omega⟩
    .rw [OF S d,Bn];congr 1;omega
    .have:=V.out
     rw[<-z.out,Nat.pow_one]at this;exact this.symm
  .obtain rfl:k=n:=by omega
   go_wp2;go_ret;exact⟨by rw[z.out,List.take_of_length_le Zds];rfl,Ext.refl _⟩
def EQ(a b:Nat):Int:=if a<b then -1 else if b<a then 1 else 0
theorem BY{x y:Nat}(h:x<=y):(Ao x).length<=(Ao y).length:=by
 induction y using Nat.strongRecOn generalizing x with
 |_ y n=>
  by_cases C:x=0
  .subst C;rw[Br];exact Nat.zero_le _
  .have N:y≠0:=by omega
   rw[Ee C,Ee N];simp only[List.length_cons];have:=n (y/BB) (Nat.div_lt_self Zbx ZbA) (Nat.div_le_div_right (c:=BB) h);omega
theorem QA(t:Bt l)(L:l.length=f.length)(B:n<l.length)(a:∀i,n<i->l.getD i 0=f.getD i 0)(Q:l.getD n 0<f.getD n 0):val l<val f:=by
 have key:∀(j:Nat),n+1+j<=l.length->val (l.take (n+1+j))<val (f.take (n+1+j)):=by
  intro j
  induction j with
  |zero=>
   intro _;rw[Nat.add_zero,AO,AO]
   have u:val (l.take n)<BB^n:=by
    have:=Dr (l:=l.take n) λx C=>t x (List.mem_of_mem_take C);rwa [List.length_take,Nat.min_eq_left (Nat.le_of_lt B)]at this
   have A:BB^n*(l.getD n 0+1)<=BB^n*f.getD n 0:=Nat.mul_le_mul_left _ Q;rw[Nat.mul_add]at A;omega
  |succ j F=>
   intro E;have:=F Zbx;rw[<-Nat.add_assoc,AO,AO,a (n+1+j) Zbx];omega
 have:=key (l.length-(n+1)) Zbx;rw[show n+1+(l.length-(n+1))=l.length by omega,List.take_of_length_le (Nat.le_refl _),List.take_of_length_le Zbx]at this;exact this
theorem VI(L:l.length=f.length)(a:∀i,i<l.length->l.getD i 0=f.getD i 0):l=f:=by
 apply List.ext_getElem L;intro i u A;have:=a i u;simpa[u,A]using this
theorem Jt(h:(Ao n).length<(Ao b).length):EQ n b=-1:=by
 have:n<b:=by
  rcases Nat.lt_or_ge n b with u | u
  .exact u
  .have:=BY u;omega
 simp[EQ,this]
theorem Ju(h:(Ao b).length<(Ao n).length):EQ n b=1:=by
 have:b<n:=by
  rcases Nat.lt_or_ge b n with u | u
  .exact u
  .have:=BY u;omega
 have A:¬n<b:=by omega
 simp[EQ,this,A]
theorem Pn{x y k:Nat}(L:(Ao x).length=(Ao y).length)(B:k<(Ao x).length)(a:∀i,k<i->(Ao x).getD i 0=(Ao y).getD i 0)(Q:(Ao x).getD k 0<(Ao y).getD k 0):EQ x y=-1:=by
 have:=QA (BK x) L B a Q;rw[AB,AB]at this;simp[EQ,this]
theorem Pp{x y k:Nat}(L:(Ao x).length=(Ao y).length)(B:k<(Ao x).length)(a:∀i,k<i->(Ao x).getD i 0=(Ao y).getD i 0)(Q:(Ao y).getD k 0<(Ao x).getD k 0):EQ x y=1:=by
 have:=QA (BK y) L.symm Zbx (λi K=>(a i K).symm) Q;rw[AB,AB]at this;have A:¬x<y:=by omega
 simp[EQ,this,A]
theorem Pq(L:(Ao n).length=(Ao b).length)(a:∀i,(Ao n).getD i 0=(Ao b).getD i 0):EQ n b=0:=by
 have:=VI L λi _=>a i;have A:n=b:=by rw[<-AB n,<-AB b,this]
 simp[EQ,A]
theorem HC(Z z:Value)(x y:Nat)(w:World)(t:Words w Z (Ao x))(G:Words w z (Ao y)) :
  Calls Tryz.prog 284 #[Z,z] w λe O=>e=.returned (.int .i64 (EQ x y))/\Ext w O:=by
 obtain⟨A,c,rfl,I,j,F⟩:=t.open_;obtain⟨B,d,rfl,W,v,N⟩:=G.open_;clear t G;have f:=Ae F;have p:=Ae N;clear F N;obtain⟨n,s⟩:∃n,n=(Ao x).length:=⟨_,rfl⟩;obtain⟨m,a⟩:∃m,m=(Ao y).length:=⟨_,rfl⟩;rw[<-s]at I ⊢;rw[<-a]at W ⊢;replace s:=Ae s;replace a:=Ae a;rcases Nat.lt_trichotomy n m with Q | heq | hgt
 .have R:((n:Int) != m)=true:=ZgC
  go_enter Tryz.func284,Tryz.ntmps284;go_wp2;exact Zgg
 .subst heq
  have R:((n:Int) != n)=false:=by simp
  go_enter Tryz.func284,Tryz.ntmps284;go_wp2;go_loopw [5] (λi wr=>∃k:Nat,k<=n/\i=.int .i64 ((k:Int)-1)/\Hid (Ext w wr/\∀i,k<=i->(Ao x).getD i 0=(Ao y).getD i 0)) (λi _=>(intOf i+1).toNat)
  case atStart=>exact Zap
  case round=>
   obtain⟨k,E,rfl,J⟩:=hrel;by_cases h:k=0
   .exact Zaq
   .obtain ⟨q, rfl⟩:∃q, k=q+1:=⟨k-1, by omega⟩
    obtain⟨b,o,rfl,G,S⟩:=f.out Zcl;replace S:=(J.out.1.cell (p:=⟨b,o+q,none⟩) G).trans (S q Zcl);obtain⟨M,L,rfl,V,l⟩:=p.out ZdL;replace l:=(J.out.1.cell (p:=⟨M,L+q,none⟩) V).trans (l q ZdL);generalize H:(Ao x).getD q 0=X at *;generalize T:(Ao y).getD q 0=Y at *;replace H:=Ae H;replace T:=Ae T;have g:((q+1:Nat):Int)-1=q:=by omega
    rw[g];rcases Nat.lt_trichotomy X Y with Q | heq | hgt
    .have r:((X:Int) != Y)=true:=ZgC
     go_wp2;go_quiet (fail);go_wp2;go_quiet (fail);go_wp2;go_ret;exact⟨by rw[Pn (k:=q) Zdh Zcl (λi K=>J.out.2 i K) (by rw[H.out,T.out];exact Q)];rfl,(J.out.1.drewN _).drewN _⟩
    .subst heq
     have r:((X:Int) != X)=false:=by simp
     go_wp2;go_quiet (fail);go_wp2;refine⟨⟨q,by omega,rfl,J.out.1.drewN _,λi K=>?_⟩,by simp[intOf]⟩;rcases Nat.lt_or_ge q i with u | u
     .exact J.out.2 i u
     .obtain rfl:i=q:=by omega
      rw[H.out,T.out]
    .have r:((X:Int) != Y)=true:=ZgC
     have P:¬((X:Int)<Y):=by omega
     go_wp2;go_quiet (fail);go_wp2;go_quiet (fail);go_wp2;exact Zfs
 .have R:((n:Int) != m)=true:=ZgC
  go_enter Tryz.func284,Tryz.ntmps284;go_wp2;exact ZfY
def IsInt(w:World)(p h:Value)(z:Int):Prop:=p=.bool (decide (z<0))/\Words w h (Ao z.natAbs)
theorem IsInt.ext(u:IsInt w z v a)(A:Ext w h):IsInt h z v a:=⟨u.1,u.2.ext A⟩
def Jw(z:Int)(w:World)(e:Ending)(O:World):Prop:=∃(b:Bool) (A:Option Addr) (n c:Nat),e=.returned (.agg #[.bool b,.slice A n c])/\IsInt O (.bool b) (.slice A n c) z/\Ext w O
theorem IsInt.set{B A:Value}{z:Int}(h:IsInt w B A z){p:Addr}(M:Ty w p.block t)(C:t≠335)(u:Value):IsInt (w.setCell p u) B A z:=⟨h.1,h.2.set M C u⟩
def Ir(neg:Bool)(n:Nat):Int:=if neg then -(n:Int)else n
theorem Kx(neg:Bool)(n:Nat):(Ir neg n).natAbs=n:=by cases neg<;>simp[Ir]
theorem RO(h:n≠0):decide (Ir p n<0)=p:=by cases p<;>simp[Ir]<;>omega
theorem HP(neg:Bool):Ir neg 0=0:=by cases neg<;>rfl
theorem Xr:Ir (!decide (a<0)) a.natAbs=-a:=by
 by_cases h:a<0<;>simp[Ir,h]<;>omega
theorem KY{z:Int}:Ir (decide (z<0)) z.natAbs=z:=by
 by_cases h:z<0<;>simp[Ir,h]<;>omega
theorem IsInt.bool_eq(h:IsInt w (.bool p) z a):p=decide (a<0):=by
 have:=h.1;injection this
theorem IsInt.neg_eq(h:IsInt w (.bool p) z a):Ir (!p) a.natAbs=-a:=by rw[h.bool_eq];exact Xr
theorem Bi:(Ao n).length=0↔n=0:=by
 constructor
 .intro h
  have:Ao n=[]:=List.eq_nil_of_length_eq_zero h;rw[<-AB n,this];rfl
 .rintro rfl;rw[Br];rfl
theorem Ext.cells{W a:World}(E:Ext W a):(∀b o,b<W.heap.size->a.cell? ⟨b,o,none⟩=W.cell? ⟨b,o,none⟩)/\(∀b o,b<W.heap.size->a.frozen? ⟨b,o,none⟩=W.frozen? ⟨b,o,none⟩):=
 ⟨λb o h=>E.cell (p:=⟨b,o,none⟩) h,λb o h=>E.frozen (p:=⟨b,o,none⟩) h⟩
theorem DJ(neg:Bool)(v:Value)(l:List Nat)(w:World)(h:Words w v l) :
  Calls Tryz.prog 236 #[.bool neg,v] w λe O=>Jw (Ir neg (val l)) w e O:=by
 have b:=Ae h.small;have H:=Ae h;clear h;go_enter Tryz.func236,Tryz.ntmps236;go_wp2_with fail;refine(Dt _ _ _ (H.out.ext ((Ext.refl _).alloc _))).mono ?_;rintro e a ⟨R,rfl,E,X⟩;rw[AW b.out]at E;obtain⟨A,c,rfl,G,s,C⟩:=E.open_;replace C:=Ae C;obtain⟨F,L⟩:=X.cells;by_cases g:(Ao (val l)).length=0
 .have I:=Ae (Bi.1 g)
  generalize u:(Ao (val l)).length=n at *;subst g;replace u:=Ae u;go_wp2;refine bodyPost_ret (v:=.agg #[.bool false,.slice none 0 0]) Zem rfl ⟨_,_,_,_,rfl,⟨?_,?_⟩,?_⟩
  .rw [I.out,HP];rfl
  .rw [I.out,HP]
   show Words _ _ (Ao 0);rw[Br];exact Words.nil _ _ _ Zbx
  .exact Zhf
 .have I:=Ae (λe=>g (Bi.2 e))
  have B:(((Ao (val l)).length:Int)==0)=false:=by simpa using g
  go_wp2;refine bodyPost_ret (v:=.agg #[.bool neg,.slice A (Ao (val l)).length c]) Zem rfl ⟨_,_,_,_,rfl,⟨?_,?_⟩,?_⟩
  .rw [RO I.out]
  .rw [Kx]
   have M:=(Ty.new w #[Value.bool false,Value.slice none 0 0] 109).ext X;exact(E.set M ZbA _).set (M.set _ _) ZbA _
  .exact Zhf
theorem Qw(z:Int)(w:World)(g:0<=z)(s:z<18446744073709551616) :
  Calls Tryz.prog 237 #[.int .u64 z] w λe O=>∃R,e=.returned R/\Words O R (Ao z.toNat)/\Ext w O:=by
 obtain⟨m,rfl⟩:=Int.eq_ofNat_of_zero_le g;rw[Int.toNat_natCast];exact LU m w Zbx
theorem A4f(n:Int)(w:World)(g:-9223372036854775808<=n)(u:n<=9223372036854775807) :
  Calls Tryz.prog 139 #[.int .i64 n] w λe O=>Jw n w e O:=by
 by_cases h:n<0
 .have W:decide (n<0)=true:=by simpa using h
  have d:Hid (IntKind.u64.wrap (-(IntKind.u64.wrap n))=-n):=by
   simp only[IntKind.wrap_u64,Hid];omega
  go_enter Tryz.func139,Tryz.ntmps139;go_wp2_with fail;rw[d.out];refine(Qw _ _ Zbx Zbx).mono ?_;rintro e a ⟨R,rfl,x,X⟩;go_wp2_with fail;refine(DJ _ _ _ _ x).mono ?_;rintro e C ⟨p,A,s,q,rfl,Z,z⟩;replace z:=X.trans z;obtain⟨F,L⟩:=z.cells;replace Z:=Ae Z;replace z:=Ae z;clear X x;go_wp2;refine bodyPost_ret (v:=.agg #[.bool p,.slice A s q]) Zek rfl ⟨_,_,_,_,rfl,?_,?_⟩
  .exact Zar
  .exact Zhg
 .have W:decide (n<0)=false:=by simpa using h
  go_enter Tryz.func139,Tryz.ntmps139;go_wp2_with fail;refine(Qw _ _ Zbx Zbx).mono ?_;rintro e a ⟨R,rfl,x,X⟩;go_wp2_with fail;refine(DJ _ _ _ _ x).mono ?_;rintro e C ⟨p,A,s,q,rfl,Z,z⟩;replace z:=X.trans z;obtain⟨F,L⟩:=z.cells;replace Z:=Ae Z;replace z:=Ae z;clear X x;go_wp2;refine bodyPost_ret (v:=.agg #[.bool p,.slice A s q]) Zek rfl ⟨_,_,_,_,rfl,?_,?_⟩
  .exact Zas
  .exact Zhg
theorem A0k(b:Bool)(A:Option Addr)(n c:Nat)(z:Int)(w:World)(h:IsInt w (.bool b) (.slice A n c) z) :
  Calls Tryz.prog 235 #[.agg #[.bool b,.slice A n c]] w λe O=>e=.returned (.int .i64 z.sign)/\Ext w O:=by
 obtain⟨u,B⟩:=h;obtain⟨k,r,o,G,s,C⟩:=B.open_;injection o with d v U
 subst d;subst U;clear C B;injection u with u
 by_cases g:z=0
 .subst g
  have f:n=0:=by rw[v];show(Ao 0).length=0;rw[Br];rfl
  subst f;clear u v;go_enter Tryz.func235,Tryz.ntmps235;go_wp2;go_ret;exact⟨rfl,(Ext.refl _).alloc _⟩
 .have f:n≠0:=by
   rw[v];intro e;have:=Bi.1 e;omega
  have F:((n:Int)==0)=false:=by simpa using f
  replace v:=Ae v
  cases b with
  |true=>
   have E:z<0:=by simpa using u
   clear u;go_enter Tryz.func235,Tryz.ntmps235;go_wp2;go_ret;exact⟨by rw[Int.sign_eq_neg_one_of_neg E];rfl,(Ext.refl _).alloc _⟩
  |false=>
   have E:0<z:=by
    have:¬z<0:=Zhe
    omega
   clear u;go_enter Tryz.func235,Tryz.ntmps235;go_wp2;go_ret;exact⟨by rw[Int.sign_eq_one_of_pos E];rfl,(Ext.refl _).alloc _⟩
theorem A2E(b:Bool)(A:Option Addr)(n c:Nat)(z:Int)(w:World)(h:IsInt w (.bool b) (.slice A n c) z)(E:(Ao z.natAbs).length<=4398046511104) :
  Calls Tryz.prog 292 #[.agg #[.bool b,.slice A n c]] w (Jw (-z) w):=by
 replace h:=Ae h;replace E:=Ae E;go_enter Tryz.func292,Tryz.ntmps292;go_wp2
 refine wp_region_v Zbz [[], [(3, 0)], [(4, 1)], [], [(6, 3)], [(7, 4)], [(5, 2), (8, 5)]] [[], [0], [0, 1], [], [3], [3, 4], [0, 1, 2, 3, 4, 5]]
  [λv _=>v=.pointer (some ⟨w.heap.size,0,none⟩),λv _=>v=.bool b,λv _=>v=.bool (!b),λv _=>v=.pointer (some ⟨w.heap.size,1,none⟩),λv _=>v=.slice A n c,λv O=>Words O v (Ao z.natAbs),λv O=>∃b A n c,v=.agg #[.bool b,.slice A n c]/\IsInt O (.bool b) (.slice A n c) (-z)]
  rfl Zbz Zbz ?stab ?steps ?fin
 case stab=>exact .cons (Stab.eq _) (.cons (Stab.eq _) (.cons (Stab.eq _) (.cons (Stab.eq _) (.cons (Stab.eq _) (.cons (λ_ _ _ a h=>h.ext a) (.cons (λ_ _ _ a ⟨b,A,n,c,u,B⟩=>⟨b,A,n,c,u,B.ext a⟩) .nil))))))
 case steps=>
  refine .cons ?s0 (.cons ?s1 (.cons ?s2 (.cons ?s3 (.cons ?s4 (.cons ?s5 (.cons ?s6 .nil))))))
  case s0=>
   intro O j X C t G p;exact ZfQ
  case s1=>
   intro O j X C t G p;have U:j (.tmp 3)=.pointer (some ⟨w.heap.size,0,none⟩):=C.1 _ rfl;have K:O.cell? ⟨w.heap.size,0,none⟩=some (.bool b):=X.cellv ZbK;exact AA (by simp[execOp,U,K,go_sem]) rfl
  case s2=>
   intro O j X C t G p;have R:j (.tmp 4)=.bool b:=C.1 _ rfl;exact AA (by simp[execOp,R,go_sem]) rfl
  case s3=>
   intro O j X C t G p;exact ZfQ
  case s4=>
   intro O j X C t G p;have Y:j (.tmp 6)=.pointer (some ⟨w.heap.size,1,none⟩):=C.1 _ rfl;have K:O.cell? ⟨w.heap.size,1,none⟩=some (.slice A n c):=X.cellv ZbK;exact AA (by simp[execOp,Y,K,go_sem]) rfl
  case s5=>
   intro O j X C t G p;have i:j (.tmp 7)=.slice A n c:=C.1 _ rfl;refine CD (by simp[execOp,resolve,invoke,i,p,go_sem]) (JT _ _ _ (h.out.2.ext ((((Ext.refl _).alloc _).alloc _).drew.trans X)) (by have:=E.out;omega)) ?_;rintro e I ⟨k,rfl,L,Q⟩;exact⟨k,rfl,Q,L⟩
  case s6=>
   intro O j X C t G p;have Z:j (.tmp 5)=.bool (!b):=C.1 _ rfl;have x:Words O (j (.tmp 8)) (Ao z.natAbs):=C.2.1 _ rfl;refine CD (by simp[execOp,resolve,invoke,Z,p,go_sem]) (DJ (!b) _ _ _ x) ?_;rintro e I ⟨s,o,m,W,rfl,y,Q⟩;exact⟨_,rfl,Q,s,o,m,W,rfl,by rw[AB]at y;rw[<-h.out.neg_eq];exact y⟩
 case fin=>
  intro g O X hF;obtain⟨V,r,q,l,F,f⟩:=hF 6 _ rfl;simp only[List.length_cons,List.length_nil,Nat.reduceAdd,List.drop_succ_cons,List.drop_zero,List.take_succ_cons,List.take_zero,EM,Act.put,List.setIfInBounds_toArray,List.set_cons_succ,List.set_cons_zero,F];clear hF F;replace f:=Ae f;obtain⟨N,S⟩:=X.cells;replace X:=Ae X;go_wp2;refine bodyPost_ret (v:=.agg #[.bool V,.slice r q l]) (by simp[results,Tryz.results292,go_sem,N]) rfl ⟨_,_,_,_,rfl,?_,?_⟩
  .have M:Ty O (w.heap.size+1) 109:=by simpa using (Ty.new (w.alloc (.cells #[Value.bool b, Value.slice A n c] 109)) _ _).ext ((Ext.refl _).drew.trans X.out)
   exact(f.out.set M ZbA _).set (M.set _ _) ZbA _
  .exact (((((Ext.refl _).alloc _).alloc _).drew.trans X.out).set ZbK _).set ZbK _
theorem Xs(x y:Int):Ir (!(decide (x<0)==decide (y<0))) (x.natAbs*y.natAbs)=x*y:=by
 have h:=KY (z:=x);have d:=KY (z:=y);generalize decide (x<0)=p at *;generalize decide (y<0)=q at *;generalize x.natAbs=m at *;generalize y.natAbs=n at *;subst h;subst d;cases p<;>cases q<;>simp[Ir,Int.natCast_mul,Int.neg_mul,Int.mul_neg]
theorem A2H(b K:Bool)(A k:Option Addr)(n c E r:Nat)(x y:Int)(w:World)(h:IsInt w (.bool b) (.slice A n c) x)(d:IsInt w (.bool K) (.slice k E r) y)(F:(Ao x.natAbs).length<=4398046511104)(V:(Ao y.natAbs).length<=4398046511104) :
  Calls Tryz.prog 286 #[.agg #[.bool b,.slice A n c],.agg #[.bool K,.slice k E r]] w (Jw (x*y) w):=by
 replace h:=Ae h;replace d:=Ae d;replace F:=Ae F;replace V:=Ae V;go_enter Tryz.func286,Tryz.ntmps286;go_wp2
 refine wp_region_v Zbz [[], [(5, 0)], [], [(7, 2)], [(6, 1), (8, 3)], [], [(10, 5)], [], [(12, 7)], [(11, 6), (13, 8)], [(9, 4), (14, 9)]] [[], [0], [], [2], [0, 1, 2, 3], [], [5], [], [7], [5, 6, 7, 8], [0, 1, 2, 3, 4, 5, 6, 7, 8, 9]]
  [λv _=>v=.pointer (some ⟨w.heap.size,0,none⟩),λv _=>v=.bool b,λv _=>v=.pointer (some ⟨w.heap.size+1,0,none⟩),λv _=>v=.bool K,λv _=>v=.bool (!(b==K)),λv _=>v=.pointer (some ⟨w.heap.size,1,none⟩),λv _=>v=.slice A n c,λv _=>v=.pointer (some ⟨w.heap.size+1,1,none⟩),λv _=>v=.slice k E r,λv O=>Words O v (Ao (val (Ao x.natAbs)*val (Ao y.natAbs))),λv O=>∃b A n c,v=.agg #[.bool b,.slice A n c]/\IsInt O (.bool b) (.slice A n c) (x*y)]
  rfl Zbz Zbz ?stab ?steps ?fin
 case stab=>exact .cons (Stab.eq _) (.cons (Stab.eq _) (.cons (Stab.eq _) (.cons (Stab.eq _) (.cons (Stab.eq _) (.cons (Stab.eq _) (.cons (Stab.eq _) (.cons (Stab.eq _) (.cons (Stab.eq _) (.cons (λ_ _ _ a h=>h.ext a) (.cons (λ_ _ _ a ⟨b,A,n,c,u,B⟩=>⟨b,A,n,c,u,B.ext a⟩) .nil))))))))))
 case steps=>
  refine .cons ?s0 (.cons ?s1 (.cons ?s2 (.cons ?s3 (.cons ?s4 (.cons ?s5 (.cons ?s6 (.cons ?s7 (.cons ?s8 (.cons ?s9 (.cons ?s10 .nil))))))))))
  case s0=>
   intro O j X C t G p;exact ZfR
  case s1=>
   intro O j X C t G p;have Z:j (.tmp 5)=.pointer (some ⟨w.heap.size,0,none⟩):=C.1 _ rfl;have N:O.cell? ⟨w.heap.size,0,none⟩=some (.bool b):=X.cellv (((((Blk.new _ _ _).alloc _).alloc _).drew.cell 0));exact AA (by simp[execOp,Z,N,go_sem]) rfl
  case s2=>
   intro O j X C t G p;exact Zfa
  case s3=>
   intro O j X C t G p;have o:j (.tmp 7)=.pointer (some ⟨w.heap.size+1,0,none⟩):=C.1 _ rfl;have N:O.cell? ⟨w.heap.size+1,0,none⟩=some (.bool K):=X.cellv ((((ER _ _ ZbK).alloc _).drew.cell 0));exact AA (by simp[execOp,o,N,go_sem]) rfl
  case s4=>
   intro O j X C t G p;have i:j (.tmp 6)=.bool b:=C.1 _ rfl;have T:j (.tmp 8)=.bool K:=C.2.1 _ rfl;exact AA (by simp[execOp,i,T,go_sem]) rfl
  case s5=>
   intro O j X C t G p;exact ZfR
  case s6=>
   intro O j X C t G p;have xa:j (.tmp 10)=.pointer (some ⟨w.heap.size,1,none⟩):=C.1 _ rfl;have N:O.cell? ⟨w.heap.size,1,none⟩=some (.slice A n c):=X.cellv (((((Blk.new _ _ _).alloc _).alloc _).drew.cell 1));exact AA (by simp[execOp,xa,N,go_sem]) rfl
  case s7=>
   intro O j X C t G p;exact Zfa
  case s8=>
   intro O j X C t G p;have xc:j (.tmp 12)=.pointer (some ⟨w.heap.size+1,1,none⟩):=C.1 _ rfl;have N:O.cell? ⟨w.heap.size+1,1,none⟩=some (.slice k E r):=X.cellv ((((ER _ _ ZbK).alloc _).drew.cell 1));exact AA (by simp[execOp,xc,N,go_sem]) rfl
  case s9=>
   intro O j X C t G p;have xb:j (.tmp 11)=.slice A n c:=C.1 _ rfl;have xd:j (.tmp 13)=.slice k E r:=C.2.1 _ rfl;refine CD (by simp[execOp,resolve,invoke,p,xb,xd,go_sem]) (Tw _ _ _ _ _ (h.out.2.ext (((((Ext.refl _).alloc _).alloc _).alloc _).drew.trans X)) (d.out.2.ext (((((Ext.refl _).alloc _).alloc _).alloc _).drew.trans X)) F.out V.out) ?_;rintro e L ⟨s,rfl,Q,S⟩;exact⟨s,rfl,S,Q⟩
  case s10=>
   intro O j X C t G p;have e9:j (.tmp 9)=.bool (!(b==K)):=C.1 _ rfl;have xf:=C.2.1 _ rfl;refine CD (by simp[execOp,resolve,invoke,p,e9,go_sem]) (DJ (!(b==K)) _ _ _ xf) ?_;rintro e L ⟨P,H,m,f,rfl,xe,S⟩;exact⟨_,rfl,S,P,H,m,f,rfl,by rw[AB,AB,AB,h.out.bool_eq,d.out.bool_eq,Xs]at xe;exact xe⟩
 case fin=>
  intro g O X hF;obtain⟨Y,J,q,z,I,l⟩:=hF 10 _ rfl;simp only[List.length_cons,List.length_nil,Nat.reduceAdd,List.drop_succ_cons,List.drop_zero,List.take_succ_cons,List.take_zero,EM,Act.put,List.setIfInBounds_toArray,List.set_cons_succ,List.set_cons_zero,I];clear hF I;replace l:=Ae l;obtain⟨R,W⟩:=X.cells;replace X:=Ae X;go_wp2;refine bodyPost_ret (v:=.agg #[.bool Y,.slice J q z]) (by simp[results,Tryz.results286,go_sem,R]) rfl ⟨_,_,_,_,rfl,?_,?_⟩
  .have M:Ty O (w.heap.size+2) 109:=(EU _ _ ZbK).drew.ext X.out
   exact(l.out.set M ZbA _).set (M.set _ _) ZbA _
  .exact ((((((Ext.refl _).alloc _).alloc _).alloc _).drew.trans X.out).set Zcm _).set Zcm _
theorem RP(h:decide (a<0)=decide (J<0)):Ir (decide (a<0)) (a.natAbs+J.natAbs)=a+J:=by
 by_cases C:a<0<;>by_cases N:J<0<;>simp[C,N]at h<;>simp[Ir,C]<;>omega
theorem Vr(h:¬decide (a<0)=decide (J<0))(g:J.natAbs<=a.natAbs):Ir (decide (a<0)) (a.natAbs-J.natAbs)=a+J:=by
 by_cases C:a<0<;>by_cases N:J<0<;>simp[C,N]at h<;>simp[Ir,C]<;>omega
theorem Vq(h:¬decide (a<0)=decide (J<0))(g:a.natAbs<=J.natAbs):Ir (decide (J<0)) (J.natAbs-a.natAbs)=a+J:=by
 by_cases C:a<0<;>by_cases N:J<0<;>simp[C,N]at h<;>simp[Ir,N]<;>omega
end
end Go.Proofs.YtcikkglcoeedlaaGreat
