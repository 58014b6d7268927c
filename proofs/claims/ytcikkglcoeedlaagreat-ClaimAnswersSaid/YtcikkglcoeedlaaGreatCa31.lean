/- Part 31 of the proof of claimAnswers_holds. No condition. -/
import Derived.Test.YtcikkglcoeedlaaGreatCa20
import Derived.Test.YtcikkglcoeedlaaGreatCa21
import Derived.Test.YtcikkglcoeedlaaGreatCa22
import Derived.Test.YtcikkglcoeedlaaGreatCa24
import Derived.Test.YtcikkglcoeedlaaGreatCa25
import Derived.Test.YtcikkglcoeedlaaGreatCa26
import Derived.Test.YtcikkglcoeedlaaGreatCa28
set_option linter.unusedSimpArgs false
set_option linter.unusedVariables false
set_option maxRecDepth 100000
set_option maxHeartbeats 4000000
namespace Go.Proofs.YtcikkglcoeedlaaGreat
variable{uy:List RTm}{n:Nat}{x y:Operand}{e:Type}{t:TypeId}
section
open Go.RowKit
theorem A3x{s t:Tm}(h:EE s=EE t):s=t:=by
 have A:decide (s.c.num<0)=decide (t.c.num<0):=congrArg RTm.b h;have B:Aq s.c.num.natAbs=Aq t.c.num.natAbs:=congrArg RTm.l h;have L:decide ((s.c.den:Int)<0)=decide ((t.c.den:Int)<0):=congrArg RTm.b' h;have V:Aq (s.c.den:Int).natAbs=Aq (t.c.den:Int).natAbs:=congrArg RTm.l' h;have m:s.m=t.m:=congrArg RTm.m h;have c:=Oy A B;have v:=Oy L V;have x:s.c.den=t.c.den:=by omega
 have W:s.c=t.c:=Rat.ext c x;cases s;cases t;simp only[Tm.mk.injEq];exact⟨W,m⟩
open Classical in
noncomputable def toT (r:RTm):Tm:=if h:∃t,EE t=r then h.choose else default
noncomputable def KL (p:List RTm):List Tm:=p.map toT
theorem A4W(t:Tm):toT (EE t)=t:=by
 have h:∃U,EE U=EE t:=⟨t,rfl⟩;unfold toT;rw[dif_pos h];exact A3x h.choose_spec
theorem A5b{r:RTm}(h:QOk r.b r.l r.b' r.l'):EE (toT r)=r:=by
 obtain⟨q,c,v,x,W⟩:=h;have B:∃t,EE t=r:=⟨⟨q,r.m⟩,by cases r;simp only[EE,RTm.mk.injEq];exact⟨c.symm,v.symm,x.symm,W.symm,trivial⟩⟩;unfold toT;rw[dif_pos B];exact B.choose_spec
theorem OO(P:List Tm):KL (P.map EE)=P:=by
 unfold KL;rw[List.map_map]
 conv=>rhs;rw[<-List.map_id P]
 exact List.map_congr_left λt _=>A4W t
theorem Wo(p:List RTm):(KL p).length=p.length:=by simp[KL]
theorem Sw(h:GH uy):uy=(KL uy).map EE/\Canon (KL uy)/\PIn (KL uy) 0 65535:=by
 have A:uy=(KL uy).map EE:=by
  unfold KL;rw[List.map_map]
  conv=>lhs;rw[<-List.map_id uy]
  refine List.map_congr_left λr b=>?_;obtain⟨k,C,e⟩:=List.getElem_of_mem b;have B:=(h k C).1.1;have L:Er uy k=r:=by unfold Er;exact Zgg
  rw[L]at B;exact(A5b B).symm
 obtain⟨P,R⟩:∃P,P=KL uy:=⟨_,rfl⟩;rw[<-R]at A ⊢;subst A;have F:∀k,k<P.length->Er (P.map EE) k=EE (BJ P k):=λk C=>SH C;have K:(P.map EE).length=P.length:=List.length_map _;refine⟨rfl,⟨A5z λk C g=>?_,λt J=>?_⟩,λt J=>?_⟩
 .have V:=(h k (by rw [K]; exact C)).2 g
  rw[F k C,F (k-1) ZbK]at V;exact V
 .obtain ⟨k,C,e⟩:=List.getElem_of_mem J
  have V:=(h k (by rw[K];exact C)).1.2.1;have m:BJ P k=t:=by unfold BJ;exact Zgg
  rw[F k C,m]at V;intro E;apply V;show Aq t.c.num.natAbs=[];rw[E];exact BA
 .obtain ⟨k,C,e⟩:=List.getElem_of_mem J
  have V:=(h k (by rw[K];exact C)).1.2.2;have m:BJ P k=t:=by unfold BJ;exact Zgg
  rw[F k C,m]at V;exact V
structure WZ(l:List Nat):Prop where
 s:BD l
 n:l.length<=10000
structure QZ(q:RQ):Prop where
 n:WZ q.l
 d:WZ q.l'
structure TZ(t:RTm):Prop where
 n:WZ t.l
 d:WZ t.l'
structure PZ(p:List RTm):Prop where
 t:∀r∈p,TZ r
 n:p.length<=40000
structure LZ{α:Type}(D:α->Prop)(l:List α):Prop where
 e:∀x∈l,D x
 n:l.length<=40000
theorem PZ.rt{p:List RTm}(h:PZ p):A6A p:=λr b=>⟨(h.t r b).n.s,(h.t r b).d.s,by have:=(h.t r b).n.n;omega,by have:=(h.t r b).d.n;omega⟩
theorem PZ.sz(h:PZ uy)(q:GH uy):PSz (KL uy) 10000:=λt J=>by
 obtain⟨A,_,_⟩:=Sw q;have C:EE t∈uy:=by rw[A];exact List.mem_map_of_mem J
 have B:=h.t _ C;exact⟨B.n.n,B.d.n⟩
theorem PZ.len{p:List RTm}(h:PZ p):(KL p).length<=40000:=by rw[Wo];exact h.n
def BdP(n d:Int)(p:List RTm):Prop:=GH p/\Sx (KL p)<2^n.toNat/\Ji (KL p)<=d
theorem A3z{P:List Tm}(R:PSz P n)(I:Canon P):PSz (FC P) (1+P.length*n+n):=by
 by_cases g:P.length=0
 .unfold FC
  rw[if_pos g];intro t J;cases J
 .unfold FC
  rw[if_neg g];exact Sz (Ot P R I ZbK) R
def pAt(l:List (List RTm))(k:Nat):List RTm:=l.getD k default
def EqP(n E:Int)(p:List RTm):Prop:=BdP n 12 p/\E<=Ji (KL p)/\CB (FC (KL p)) (KL p)=0
def LU(n E:Int)(l:List (List RTm)):Prop:=l.length<=12/\∀i,i<l.length->EqP n E (pAt l i)/\(0<i->CB (KL (pAt l (i-1))) (KL (pAt l i))<0)
def QL(k:Cor):Prop:=1<=k.n/\k.n<=4/\LU k.n 0 k.e/\LU k.n 1 k.f
structure CZ(k:Cor):Prop where
 n:IW k.n
 e:LZ PZ k.e
 f:LZ PZ k.f
theorem YJ{l:List (List RTm)}(h:n<l.length):pAt l n∈l:=Cd h
theorem A4r{d:Int}(q:GH uy):BdP (n:Int) d uy↔Sx (KL uy)<2^n/\Ji (KL uy)<=d:=⟨λh=>h.2,λh=>⟨q,h⟩⟩
open Classical in
theorem NJ(m:Nat)(t:1<=m/\m<=4)(e f:List (List RTm))(p:List RTm)(d:Int)(G:PZ p):Abs Tryz.prog 154 [AJ (Fm ⟨(m:Nat),e,f⟩),Jh p,ex (.int .i64 d)] (ex (.bool (decide (BdP (m:Nat) d p)))):=by
 have N:=G.n;have K:=XM p G.rt ZbK;by_cases q:GH p
 .rw [decide_eq_true q]at K
  obtain⟨A,B,L⟩:=Sw q;have n:=G.len;have v:=A4r (n:=m) (d:=d) q;obtain⟨P,R⟩:∃P,P=KL p:=⟨_,rfl⟩;rw[<-R]at A B L n v;have c:=A0G P ZbK;have a:=VK P L ZbK;have Q:=Yi P;rw[GN,<-A]at c a;obtain⟨u,J⟩:∃u,u=Sx P:=⟨_,rfl⟩;obtain⟨g,I⟩:∃g,g=Ji P:=⟨_,rfl⟩;rw[<-J]at c v Q;rw[<-I]at a v;have O:Min.min m IntKind.i64.bits=m:=Nat.min_eq_left (by show m<=64;omega);obtain⟨x,E⟩:∃x,x=u/2^m:=⟨_,rfl⟩;have o:((u:Nat):Int).fdiv (2^m)=((x:Nat):Int):=by rw[Eg rfl,E]
  have j:x=0↔u<2^m:=by rw[E,Nat.div_eq_zero_iff];have:0<2^m:=Nat.pow_pos ZbN;omega
  by_cases V:u<2^m
  .obtain rfl:=j.2 V
   by_cases C:g<=d
   .rw [decide_eq_true (v.2 ⟨V,C⟩)]
    refine Ab Tryz.func154 λF=>?_;rw[Tryz.ntmps154];refine Go ?_;refine Dy 18 ?_;refine Cw ?_;exact Zgo
   .rw [decide_eq_false λh=>C (v.1 h).2]
    refine Ab Tryz.func154 λF=>?_;rw[Tryz.ntmps154];refine Go ?_;refine Dy 18 ?_;refine Cw ?_;exact Zgo
  .have M:x≠0:=λe=>V (j.1 e)
   rw[decide_eq_false λh=>V (v.1 h).1];refine Ab Tryz.func154 λF=>?_;rw[Tryz.ntmps154];refine Go ?_;refine Dy 18 ?_;refine Cw ?_;exact Zgo
 .rw [decide_eq_false q]at K
  rw[decide_eq_false λh:BdP (m:Nat) d p=>q h.1];refine Ab Tryz.func154 λF=>?_;rw[Tryz.ntmps154];refine Go ?_;refine Dy 18 ?_;exact Zgj
def XT(n E:Int)(l:List (List RTm))(i:Nat):Prop:=EqP n E (pAt l i)/\(0<i->CB (KL (pAt l (i-1))) (KL (pAt l i))<0)
open Classical in
theorem Pa(m:Nat)(t:1<=m/\m<=4)(e f l:List (List RTm))(b:Int)(O:LZ PZ l):Abs Tryz.prog 152 [AJ (Fm ⟨(m:Nat),e,f⟩),Ip l,ex (.int .i64 b)] (ex (.bool (decide (LU (m:Nat) b l)))):=by
 have xi:=O.n;by_cases n:l.length<=12
 .refine Ab Tryz.func152 λN=>?_
  rw[Tryz.ntmps152];refine Go ?_;refine Az (λM d=>∃k,k<=l.length/\M=l.length-k/\(∀j,j<k->XT (m:Nat) b l j)/\d=⟨[(1,.d (Ip l)),(2,.d (ex (.int .i64 b))),(3,.ptr 0 0),(12,.d (Ip l)),(13,.d (ex (.int .i64 (l.length:Nat)))),(14,.d (ex (.int .i64 (k:Nat))))],[.var 139 ((Fm ⟨(m:Nat),e,f⟩).map .d)]⟩) ?le ⟨0,by omega,rfl,λj I=>absurd I (Nat.not_lt_zero j),rfl⟩ ?round
  case le=>exact Ad ZdG Zdm
  case round=>
   rintro M _ ⟨k,C,rfl,a,rfl⟩;by_cases E:k<l.length
   .have G:PZ (pAt l k):=O.e _ (YJ E)
    have H:=G.n;obtain⟨p,c⟩:∃p,p=pAt l k:=⟨_,rfl⟩;have v:=λh:LU (m:Nat) b l=>h.2 k E;rw[<-c]at G H v;have Y:=NJ m t e f p 12 G;by_cases F:BdP (m:Nat) 12 p
    .rw [decide_eq_true F]at Y
     obtain⟨A,B,L⟩:=Sw F.1;have n:=G.len;have X:=G.sz F.1;obtain⟨P,W⟩:∃P,P=KL p:=⟨_,rfl⟩
     have S:EqP (m:Nat) b p↔b<=Ji P/\CB (FC P) P=0:=by
      rw[W];exact⟨λh=>h.2,λh=>⟨F,h⟩⟩
     rw[<-W]at A B L n X v;have xg:P.length*10000<=400000000:=Nat.mul_le_mul_right 10000 n;have T:=VK P L ZbK;have o:=XP P 10000 X B L ZbK ZbK;have s:=KD (FC P) P ((A3z X B).mono ZbK) (X.mono ZbK) (by rw[YK];omega) ZbK;rw[GN P,<-A]at T o s;obtain⟨g,R⟩:∃g,g=Ji P:=⟨_,rfl⟩;rw[<-R]at T S;have xh:=c;subst c;by_cases V:b<=g
     .by_cases J:CB (FC P) P=0
      .rw [decide_eq_true J]at s
       by_cases U:k=0
       .have xa:∀j,j<k+1->XT (m:Nat) b l j:=λj I=>by
         obtain rfl:j=k:=by omega
         exact⟨S.2 ⟨V,J⟩,λh=>absurd h ZbK⟩
        obtain rfl:=U;refine Go ?_;refine Am (l.length-(0+1)) ZbK ⟨0+1,by omega,rfl,xa,rfl⟩ ?_;exact Ad ZdG Zdm
       .have w:PZ (pAt l (k-1)):=O.e _ (YJ ZbK)
        have r:=(a (k-1) ZbK).1.1;obtain⟨y,u,x⟩:=Sw r.1;have xf:=w.len;have xc:=w.sz r.1;obtain⟨q,xb⟩:∃q,q=pAt l (k-1):=⟨_,rfl⟩;rw[<-xb]at w y u x xf xc;obtain⟨Q,Z⟩:∃Q,Q=KL q:=⟨_,rfl⟩;rw[<-Z]at y u x xf xc;have i:=A2L Q P (xc.mono ZbK) (X.mono ZbK) ZbK ZbK;rw[GN P,<-A,GN Q,<-y]at i;obtain⟨z,xd⟩:∃z,z=CB Q P:=⟨_,rfl⟩;rw[<-xd]at i;have xe:=xb;subst xb;by_cases K:z<0
        .have xa:∀j,j<k+1->XT (m:Nat) b l j:=λj I=>by
          rcases Nat.lt_or_ge j k with I | I
          .exact a j I
          .obtain rfl:j=k:=by omega
           exact⟨S.2 ⟨V,J⟩,λ_=>by rw[<-xe,<-W,<-Z,<-xd];exact K⟩
         apply Y1;refine Wq Bj ?_;refine Y0<|Ao<|Ct<|Ys<|Ao<|AWp.block<|Y1<|Wm ?_;refine Wq Dv ?_;refine Wq AO ?_;refine Wa<|Wa<|Y0<|Ao<|Y1 ?_;refine Wq Bd ?_;refine Wm ?_;refine Wq (Bs (Y)) ?_;refine Wq JU ?_;refine Wm ?_;refine Wg Bk ?_;refine Wg (Bs (T)) ?_;refine Wg Bk ?_;refine Wg Bl ?_;refine Wq Di ?_;refine Y0<|Cf<|Ys<|Ao<|Y1<|Wm ?_;refine Wq (Bs (o)) ?_;refine Wm ?_;refine Wq (Bs (s)) ?_;refine Wq JU ?_;refine Y0<|Cf<|Ys<|Y1<|Wm ?_;refine Wq Bj ?_;refine Wm ?_;refine Wg Bk ?_;refine Wg Bk ?_;refine Wg (Mm (ao rfl) (ao rfl) ZbK ZbK) ?_;refine Wg Dv ?_;refine Wg AO ?_;refine Wg Bk ?_;refine Wg (Bs (i)) ?_;refine Wg Bl ?_;refine Wq Fg ?_;refine Y0<|Cf<|HG<|Bv<|Yn<|AWp.region ?_;refine Wq Dl ?_;refine Wm<|AWl.nil ?_
         refine Am (l.length-(k+1)) ZbK ⟨k+1,by omega,rfl,xa,rfl⟩ ?_;exact Ad ZdG Zdm
        .rw [decide_eq_false λh=>K (by have:=(v h).2 ZbK; rw [<-xe, <-Z, <-xd] at this; exact this)]
         apply Y1;refine Wq Bj ?_;refine Y0<|Ao<|Ct<|Ys<|Ao<|AWp.block<|Y1<|Wm ?_;refine Wq Dv ?_;refine Wq AO ?_;refine Wa<|Wa<|Y0<|Ao<|Y1 ?_;refine Wq Bd ?_;refine Wm ?_;refine Wq (Bs (Y)) ?_;refine Wq JU ?_;refine Wm ?_;refine Wg Bk ?_;refine Wg (Bs (T)) ?_;refine Wg Bk ?_;refine Wg Bl ?_;refine Wq Di ?_;refine Y0<|Cf<|Ys<|Ao<|Y1<|Wm ?_;refine Wq (Bs (o)) ?_;refine Wm ?_;refine Wq (Bs (s)) ?_;refine Wq JU ?_;refine Y0<|Cf<|Ys<|Y1<|Wm ?_;refine Wq Bj ?_;refine Wm ?_;refine Wg Bk ?_;refine Wg Bk ?_;refine Wg (Mm (ao rfl) (ao rfl) ZbK ZbK) ?_;refine Wg Dv ?_;refine Wg AO ?_;refine Wg Bk ?_;refine Wg (Bs (i)) ?_;refine Wg Bj ?_;refine Wq Fg ?_;refine Y0<|Ct<|Y1<|Wa<|Y0<|Ci<|Jf<|Gi<|Ss<|Jf<|Gi ?_
         exact Yf
      .rw [decide_eq_false J]at s
       rw[decide_eq_false λh=>J (S.1 (v h).1).2];exact Zfi
     .rw [decide_eq_false λh=>V (S.1 (v h).1).1]
      exact Zfi
    .rw [decide_eq_false F]at Y
     subst c;rw[decide_eq_false λh=>F (v h).1.1];exact Zfi
   .obtain rfl:k=l.length:=by omega
    rw[decide_eq_true (show LU (m:Nat) b l from⟨n,a⟩)];exact Zfi
 .rw [decide_eq_false λh:LU (m:Nat) b l=>n h.1]
  refine Ab Tryz.func152 λN=>?_;rw[Tryz.ntmps152];exact Zfi
open Classical
theorem A6X{P:(List RTm)->Prop}{F:D}(T:TypeId)(L:List (List RTm))(hF:∀x∈L,FnAbs Tryz.prog F [Jh x] (ex (.bool (decide (P x)))))(i:L.length<=40000):Abs Tryz.prog 300 [slD T 1 (L.map λp=>[Jh p]),F] (ex (.bool (decide (∀x∈L,P x)))):=by
 refine Ab Tryz.func300 λJ=>?_;rw[Tryz.ntmps300];refine Go ?_;refine Az (λB d=>∃k,k<=L.length/\B=L.length-k/\(∀j,j<k->P (L.getD j default))/\d=⟨[(1,.d F),(7,.d (slD T 1 (L.map λp=>[Jh p]))),(8,.d (ex (.int .i64 (L.length:Nat)))),(9,.d (ex (.int .i64 (k:Nat))))],[]⟩) ?le ⟨0,by omega,rfl,λj A=>absurd A (Nat.not_lt_zero j),rfl⟩ ?round
 case le=>exact ZiJ
 case round=>
  exact Zbj
theorem A6W{P:(List RQ)->Prop}{F:D}(T:TypeId)(L:List (List RQ))(hF:∀x∈L,FnAbs Tryz.prog F [KG x] (ex (.bool (decide (P x)))))(i:L.length<=40000):Abs Tryz.prog 253 [slD T 1 (L.map λp=>[KG p]),F] (ex (.bool (decide (∀x∈L,P x)))):=by
 refine Ab Tryz.func253 λJ=>?_;rw[Tryz.ntmps253];refine Go ?_;refine Az (λB d=>∃k,k<=L.length/\B=L.length-k/\(∀j,j<k->P (L.getD j default))/\d=⟨[(1,.d F),(7,.d (slD T 1 (L.map λp=>[KG p]))),(8,.d (ex (.int .i64 (L.length:Nat)))),(9,.d (ex (.int .i64 (k:Nat))))],[]⟩) ?le ⟨0,by omega,rfl,λj A=>absurd A (Nat.not_lt_zero j),rfl⟩ ?round
 case le=>exact ZiJ
 case round=>
  exact Zbj
def ofQ(q:Rat):RQ:=⟨decide (q.num<0),Aq q.num.natAbs,decide ((q.den:Int)<0),Aq (q.den:Int).natAbs⟩
def VZ(a:RQ×RQ):Prop:=QZ a.1/\QZ a.2
theorem Ro(k:Cor)(E:CZ k):Abs Tryz.prog 76 [AJ (Fm k)] (ex (.bool (decide (QL k)))):=by
 obtain⟨n,e,f⟩:=k;by_cases A:1<=n
 .by_cases V:n<=4
  .obtain ⟨m, rfl⟩:∃m:Nat, n=(m:Int):=⟨n.toNat, by omega⟩
   have F:=Pa m ⟨by omega,by omega⟩ e f e 0 E.e;have c:=Pa m ⟨by omega,by omega⟩ e f f 1 E.f;by_cases B:LU (m:Nat) 0 e
   .rw [decide_eq_true B]at F
    by_cases J:LU (m:Nat) 1 f
    .rw [decide_eq_true J]at c
     rw[decide_eq_true (show QL ⟨(m:Nat),e,f⟩from⟨A,V,B,J⟩)];exact ZgX
    .rw [decide_eq_false J]at c
     rw[decide_eq_false λh:QL ⟨(m:Nat),e,f⟩=>J h.2.2.2];exact ZgX
   .rw [decide_eq_false B]at F
    rw[decide_eq_false λh:QL ⟨(m:Nat),e,f⟩=>B h.2.2.1];exact ZgX
  .rw [decide_eq_false λh:QL ⟨n,e,f⟩=>V h.2.1]
   exact ZgX
 .rw [decide_eq_false λh:QL ⟨n,e,f⟩=>A h.1]
  exact ZgX
theorem Sh(k:Cor)(B:CZ k):Abs Tryz.prog 32 [AJ (Fm k)] (ex (.bool (decide (QL k)))):=by
 refine Ab Tryz.func32 λA=>?_;rw[Tryz.ntmps32];have O:=Ro k B;exact Zfi
def NV(k:Cor):Prop:=1<=k.n/\k.n<=4
theorem Zc(k:Cor)(C:NV k)(p:List RTm)(d:Int)(G:PZ p):Abs Tryz.prog 154 [AJ (Fm k),Jh p,ex (.int .i64 d)] (ex (.bool (decide (BdP k.n d p)))):=by
 obtain⟨n,e,f⟩:=k;obtain⟨m,rfl⟩:∃m:Nat,n=(m:Int):=⟨n.toNat,by have:=C.1;have:1<=n:=this;omega⟩;exact NJ m ⟨by have:=C.1;have:1<=((m:Nat):Int):=this;omega,by have:=C.2;have:((m:Nat):Int)<=4:=this;omega⟩ e f p d G
theorem A3P(k:Cor)(C:NV k)(p:List RTm)(G:PZ p):Abs Tryz.prog 254 [AJ (Fm k),Jh p] (ex (.bool (decide (BdP k.n 64 p)))):=by
 refine Ab Tryz.func254 λA=>?_;rw[Tryz.ntmps254];have B:=Zc k C p 64 G;exact Zfi
def A2Z(n:Int)(l:List (List RTm)):Prop:=∀p∈l,BdP n 64 p
theorem A22(k:Cor)(C:NV k)(l:List (List RTm))(B:LZ PZ l):Abs Tryz.prog 246 [AJ (Fm k),Ip l] (ex (.bool (decide (A2Z k.n l)))):=by
 have m:=A6X (P:=BdP k.n 64) (F:=fvD 254 [AJ (Fm k)] []) 28 l (λx E=>A2Y (A3P k C x (B.e x E))) B.n;refine Ab Tryz.func246 λA=>?_;rw[Tryz.ntmps246];refine Go ?_;refine Wq (A5W Zde (by exact ArgsLe.nil)) ?_;refine Go ?_;exact Ak (Ah (ResV.tmp rfl rfl) (Ac (congrArg (λb=>ex (.bool b)) (decide_eq_decide.2 Iff.rfl))))
def SZ(s:RQ×List RTm):Prop:=QZ s.1/\PZ s.2
structure RZ(r:Rsl):Prop where
 l:GI IW r.l
 q:LZ QZ r.q
 r:GI (LZ QZ) r.r
theorem A7n{f:Nat->e}{x:e}(h:x∈[f 0,f 1,f 2,f 3,f 4,f 5,f 6,f 7]):∃i,i<8/\x=f i:=by
 simp only[List.mem_cons,List.not_mem_nil,or_false]at h;rcases h with h | h | h | h | h | h | h | h
 .exact ⟨0,by omega,h⟩
 .exact ⟨1,by omega,h⟩
 .exact ⟨2,by omega,h⟩
 .exact ⟨3,by omega,h⟩
 .exact ⟨4,by omega,h⟩
 .exact ⟨5,by omega,h⟩
 .exact ⟨6,by omega,h⟩
 .exact ⟨7,by omega,h⟩
theorem A6K{f:Nat->e}(h:n<8):f n∈[f 0,f 1,f 2,f 3,f 4,f 5,f 6,f 7]:=by
 match n,h with
 |0,_ |1,_ |2,_ |3,_ |4,_ |5,_ |6,_ |7,_=>simp
def A2k(c:Clm):Bool:=c.kind==0&&c.n==0&&c.d==0&&c.r==0&&((c.p.length:Nat):Int)==0&&((c.o.length:Nat):Int)==0&&((c.l.length:Nat):Int)==0&&((c.s.length:Nat):Int)==0&&((c.b.length:Nat):Int)==0
theorem A0f(c:Clm):Abs Tryz.prog 161 [AJ (El c)] (ex (.bool (A2k c))):=by
 refine Ab Tryz.func161 λA=>?_;rw[Tryz.ntmps161];apply Y1;refine Bx ?_;refine Wa<|Y0 ?_;refine CF 0 1 rfl rfl rfl ?_;apply Y1;refine Wq AP ?_;refine Wq AO ?_;refine Wq Ch ?_;refine Wm ?_;refine HX (λV=>AP) ?_;refine Ee 7 rfl (λV=>AO) ?_;refine Ee 8 rfl (λV=>Ch) ?_;refine Wq Cu ?_;refine Wm ?_;refine HX (λV=>AP) ?_;refine Ee 12 rfl (λV=>AO) ?_;refine Ee 13 rfl (λV=>Ch) ?_;refine Wq Cu ?_;refine Wm ?_;refine HX (λV=>AP) ?_;refine Ee 17 rfl (λV=>AO) ?_;refine Ee 18 rfl (λV=>Ch) ?_;refine Wq Cu ?_;refine Wm ?_;refine HX (λV=>AP) ?_;refine Ee 22 rfl (λV=>AO) ?_;refine Ee 23 rfl (λV=>Cb) ?_;refine Ee 24 rfl (λV=>Ch) ?_;refine Wq Cu ?_;refine Wm ?_;refine HX (λV=>AP) ?_;refine Ee 28 rfl (λV=>AO) ?_;refine Ee 29 rfl (λV=>Cb) ?_;refine Ee 30 rfl (λV=>Ch) ?_;refine Wq Cu ?_;refine Wm ?_;refine HX (λV=>AP) ?_;refine Ee 34 rfl (λV=>AO) ?_;refine Ee 35 rfl (λV=>Cb) ?_;refine Ee 36 rfl (λV=>Ch) ?_;refine Wq Cu ?_;refine Wm ?_;refine HX (λV=>AP) ?_;refine Ee 40 rfl (λV=>AO) ?_;refine Ee 41 rfl (λV=>Cb) ?_;refine Ee 42 rfl (λV=>Ch) ?_;refine Wq Cu ?_;refine Wm ?_;refine HX (λV=>AP) ?_;refine Ee 46 rfl (λV=>AO) ?_;refine Ee 47 rfl (λV=>Cb) ?_;refine Ee 48 rfl (λV=>Ch) ?_;refine Wq Cu ?_;refine Wa<|Y0<|Ci ?_
 exact Yf
structure ClZ(c:Clm):Prop where
 kind:IW c.kind
 p:PZ c.p
 n:IW c.n
 d:IW c.d
 r:IW c.r
 o:LZ (GI IW) c.o
 l:LZ PZ c.l
 s:LZ IW c.s
 b:LZ (GI VZ) c.b
structure CrZ(e:Crt):Prop where
 n:IW e.n
 cof:LZ PZ e.cof
 g:LZ PZ e.g
 o:LZ (GI IW) e.o
 c:LZ (LZ PZ) e.c
 q:LZ (LZ PZ) e.q
 s:LZ (LZ PZ) e.s
 r:RZ e.r
 a:LZ VZ e.a
 sq:LZ SZ e.sq
 x:LZ (GI QZ) e.x
 b:LZ (GI VZ) e.b
def NoU(l:List RQ):Prop:=l.length=0
def NoR(r:Rsl):Prop:=∀i,i<8->NoU (r.r i)
theorem RU(l:List RQ):Abs Tryz.prog 257 [KG l] (ex (.bool (decide (NoU l)))):=by
 refine Ab Tryz.func257 λA=>?_;rw[Tryz.ntmps257];refine Go ?_;exact Ak (Ah (ResV.tmp rfl rfl) (Ac (congrArg (λb=>ex (.bool b)) (by rw[Bool.eq_iff_iff];simp[NoU]))))
def no8:Nat->Int:=λ_=>0
noncomputable def Xc (e:Crt):Bool:=e.n==0&&((e.cof.length:Nat):Int)==0&&((e.g.length:Nat):Int)==0&&((e.o.length:Nat):Int)==0&&((e.c.length:Nat):Int)==0&&((e.q.length:Nat):Int)==0&&((e.s.length:Nat):Int)==0&&JK e.r.l no8&&decide (NoU e.r.q)&&decide (NoR e.r)&&((e.a.length:Nat):Int)==0&&((e.sq.length:Nat):Int)==0&&((e.x.length:Nat):Int)==0&&((e.b.length:Nat):Int)==0
theorem Xb(e:Crt):Abs Tryz.prog 177 [AJ (Ek e)] (ex (.bool (Xc e))):=by
 have m:=RU e.r.q;have c:=A6W (P:=NoU) (F:=ex (.func (.func 257) #[] #[])) 46 [e.r.r 0,e.r.r 1,e.r.r 2,e.r.r 3,e.r.r 4,e.r.r 5,e.r.r 6,e.r.r 7] (λx _=>FnAbs.ex (RU x)) ZbV;have a:=c.le (r':=ex (.bool (decide (NoR e.r)))) (Ac (congrArg (λb=>ex (.bool b)) (decide_eq_decide.2 ⟨λh i M=>h _ (A6K M),λh x E=>by obtain⟨i,M,rfl⟩:=A7n E;exact h i M⟩)));refine Ab Tryz.func177 λA=>?_;rw[Tryz.ntmps177];apply Y1;refine Bx ?_;refine Wa<|Y0 ?_;refine CF 0 1 rfl rfl rfl ?_;refine Y1<|Wa<|Y0<|Y1 ?_;refine Wq AP ?_;refine Wq AO ?_;refine Wq Ch ?_;refine Wm ?_;refine HX (λV=>AP) ?_;refine Ee 8 rfl (λV=>AO) ?_;refine Ee 9 rfl (λV=>Cb) ?_;refine Ee 10 rfl (λV=>Ch) ?_;refine Wq Cu ?_;refine Wm ?_;refine HX (λV=>AP) ?_;refine Ee 14 rfl (λV=>AO) ?_;refine Ee 15 rfl (λV=>Cb) ?_;refine Ee 16 rfl (λV=>Ch) ?_;refine Wq Cu ?_;refine Wm ?_;refine HX (λV=>AP) ?_;refine Ee 20 rfl (λV=>AO) ?_;refine Ee 21 rfl (λV=>Cb) ?_;refine Ee 22 rfl (λV=>Ch) ?_;refine Wq Cu ?_;refine Wm ?_;refine HX (λV=>AP) ?_;refine Ee 26 rfl (λV=>AO) ?_;refine Ee 27 rfl (λV=>Cb) ?_;refine Ee 28 rfl (λV=>Ch) ?_;refine Wq Cu ?_;refine Wm ?_;refine HX (λV=>AP) ?_;refine Ee 32 rfl (λV=>AO) ?_;refine Ee 33 rfl (λV=>Cb) ?_;refine Ee 34 rfl (λV=>Ch) ?_;refine Wq Cu ?_;refine Wm ?_;refine HX (λV=>AP) ?_;refine Ee 38 rfl (λV=>AO) ?_;refine Ee 39 rfl (λV=>Cb) ?_;refine Ee 40 rfl (λV=>Ch) ?_;refine Wq Cu ?_;refine Wm ?_;refine HX (λV=>AP) ?_;refine Ee 44 rfl (λV=>AP) ?_;refine Ee 45 rfl (λV=>Xt) ?_;refine HX (λV=>AG (by refine Nn (Aa rfl) (Aa rfl) rfl rfl ?_;refine⟨_,rfl,?_⟩;rfl)) ?_;refine Wu2 46 rfl 47 rfl (λV=>A2G (a:=e.r.l) (b:=no8) (ao rfl) (ao rfl)) ?_;refine Wq Cu ?_;refine Wm ?_;refine HX (λV=>Bk) ?_;refine HX (λV=>AP) ?_;refine Ee 52 rfl (λV=>AP) ?_;refine Ee 53 rfl (λV=>AO) ?_;refine Wu2 51 rfl 54 rfl (λV=>JZ (ao rfl) (FnAbs.ex m) Zde) ?_;refine Wq Cu ?_;refine Wm ?_;refine HX (λV=>AP) ?_;refine Ee 58 rfl (λV=>AP) ?_;refine Ee 59 rfl (λV=>A5U (ao rfl) (Aa rfl) (Aa rfl) rfl ZbK) ?_;refine HX (λV=>Bk) ?_;refine Wu2 60 rfl 61 rfl (λV=>Bs (a)) ?_;refine Wq Cu ?_;refine Wm ?_;refine HX (λV=>AP) ?_;refine Ee 65 rfl (λV=>AO) ?_;refine Ee 66 rfl (λV=>Cb) ?_;refine Ee 67 rfl (λV=>Ch) ?_;refine Wq Cu ?_;refine Wm ?_;refine HX (λV=>AP) ?_;refine Ee 71 rfl (λV=>AO) ?_;refine Ee 72 rfl (λV=>Cb) ?_;refine Ee 73 rfl (λV=>Ch) ?_;refine Wq Cu ?_;refine Wm ?_;refine HX (λV=>AP) ?_;refine Ee 77 rfl (λV=>AO) ?_;refine Ee 78 rfl (λV=>Cb) ?_;refine Ee 79 rfl (λV=>Ch) ?_;refine Wq Cu ?_;refine Wm ?_;refine HX (λV=>AP) ?_;refine Ee 83 rfl (λV=>AO) ?_;refine Ee 84 rfl (λV=>Cb) ?_;refine Ee 85 rfl (λV=>Ch) ?_;refine Wq Cu ?_;refine Wa<|Y0<|Ci ?_
 exact Yf
noncomputable def A5F (k:Cor) (e:Crt):Bool:=(((e.cof.length:Nat):Int)==((k.e.length:Nat):Int))&&decide (A2Z k.n e.cof)
theorem A42(k:Cor)(c:Clm)(e:Crt)(C:NV k)(X:CrZ e):Abs Tryz.prog 166 [AJ (Fa ⟨k,c,e⟩)] (ex (.bool (A5F k e))):=by
 have m:=A22 k C e.cof X.cof;refine Ab Tryz.func166 λA=>?_;rw[Tryz.ntmps166];apply Y1;refine Bx ?_;refine Wa<|Y0 ?_;refine CF 0 1 rfl rfl rfl ?_;apply Y1;refine Wq AP ?_;refine Wq AP ?_;refine Wq AO ?_;refine Wq Cb ?_;refine Wq AP ?_;refine Wq AP ?_;refine Wq AP ?_;refine Wq AP ?_;refine Wq AO ?_;refine Wq Cb ?_;refine Wq Ch ?_;refine Wm ?_;refine HX (λV=>AP) ?_;refine Ee 15 rfl (λV=>AP) ?_;refine Ee 16 rfl (λV=>Xt) ?_;refine HX (λV=>AP) ?_;refine Ee 18 rfl (λV=>AP) ?_;refine Ee 19 rfl (λV=>AO) ?_;refine Wu2 17 rfl 20 rfl (λV=>Bs (m)) ?_;refine Wq Cu ?_;refine Wa<|Y0<|Ci ?_
 exact Yf
structure FZ(f:Fct):Prop where
 k:CZ f.k
 c:ClZ f.c
 e:CrZ f.e
theorem WZ.sm{l:List Nat}(h:WZ l):SmW l:=⟨h.s,by have:=h.n;omega⟩
theorem QZ.qb{q:RQ}(h:QZ q):QB q:=⟨h.n.sm,h.d.sm⟩
theorem PZ.pw(h:PZ uy):PoW uy:=λt J=>⟨(h.t t J).n.sm,(h.t t J).d.sm⟩
theorem VZ.vw{a:RQ×RQ}(h:VZ a):VW a:=⟨h.1.qb,h.2.qb⟩
theorem CZ.cw{k:Cor}(h:CZ k):CoW k:=⟨h.n,λp G=>(h.e.e p G).pw,λp G=>(h.f.e p G).pw⟩
theorem ClZ.cw{c:Clm}(h:ClZ c):ClW c:=⟨h.kind,h.p.pw,h.n,h.d,h.r,h.o.e,λp G=>(h.l.e p G).pw,h.s.e,λx E i M=>(h.b.e x E i M).vw⟩
theorem CrZ.cw{e:Crt}(h:CrZ e):CrW e:=⟨h.n,λp G=>(h.cof.e p G).pw,λp G=>(h.g.e p G).pw,h.o.e,λt J l K=>((h.c.e t J).e l K).pw,λt J l K=>((h.q.e t J).e l K).pw,λt J l K=>((h.s.e t J).e l K).pw,⟨h.r.l,λq w=>(h.r.q.e q w).qb,λi M q w=>((h.r.r i M).e q w).qb⟩,λx E=>(h.a.e x E).vw,λx E=>⟨(h.sq.e x E).1.qb,(h.sq.e x E).2.pw⟩,λx E i M=>(h.x.e x E i M).qb,λx E i M=>(h.b.e x E i M).vw⟩
theorem FZ.fw{f:Fct}(h:FZ f):FW f:=⟨h.k.cw,h.c.cw,h.e.cw⟩
noncomputable def A3L (k:Cor):List Nat:=if QL k then FP k else[]
theorem A4p(k:Cor)(B:CZ k)(K:(FP k).length<=1000000000000):Abs Tryz.prog 20 [AJ (Fm k)] (Zx (A3L k)):=by
 have m:=Sh k B;by_cases h:QL k
 .rw [decide_eq_true h]at m
  have c:=YY k B.cw [] Zdo;rw[A3L,if_pos h];refine Ab Tryz.func20 λA=>?_;rw[Tryz.ntmps20];apply Y1;refine Bx ?_;refine Wa<|Y0<|Ao<|Y1 ?_;refine Wq Bd ?_;refine Wq (Bs (m)) ?_;refine Wq JU ?_;refine Y0<|Cf<|Ys<|Y1 ?_;refine Al ?_;refine Y0<|Y1 ?_;refine Wq Bd ?_
  refine Zgz ?_;rintro _ _ ⟨rfl,rfl⟩;refine Zfp ?_;refine Wq (GB (l:=FP k) rfl (Aa rfl) (Aa rfl) (Aa rfl)) ?_;exact Zfi
 .rw [decide_eq_false h]at m
  rw[A3L,if_neg h];refine Ab Tryz.func20 λA=>?_;rw[Tryz.ntmps20];exact Zfi
def A0g(kind:Int)(p:List RTm)(o:List (Nat->Int)):List Nat:=(Bc kind++Cr p)++Cg o
theorem A4s(kind:Int)(p:List RTm)(o:List (Nat->Int))(C:IW kind)(G:PoW p)(A:ED (GI IW) o)(K:(A0g kind p o).length<=1000000000000):Abs Tryz.prog 21 [AJ [ex (.int .i64 kind),Jh p,DW o]] (Zx (A0g kind p o)):=by
 simp only[A0g,List.length_append]at K;have m:=ER kind C [] Zhz;have c:=On p G (Bc kind) ZbK;have a:=Pt o A (Bc kind++Cr p) ZdC;refine Ab Tryz.func21 λB=>?_;rw[Tryz.ntmps21];apply Y1;refine Bx ?_;refine Wa<|Y0<|Y1 ?_;refine Al ?_;refine Y0<|Y1 ?_;refine Wq AF ?_;refine Wq AL ?_
 refine AW (Lv 1 0 5 1 rfl rfl ZbN ZbK rfl rfl rfl rfl) ?_;refine AD [1,2] [] [] (m) ZbF rfl rfl ZbH ZbG ZbN ZbE ZbJ trivial rfl ?_;rintro _ _ ⟨rfl,rfl⟩;refine Zfp ?_;refine AD [1,2] [] [] (c) ZbF rfl rfl ZbH ZbG ZbN ZbE ZbJ trivial rfl ?_;rintro _ _ ⟨rfl,rfl⟩;refine Zfp ?_;refine AD [1,2] [] [] (a) ZbF rfl rfl ZbH ZbG ZbN ZbE ZbJ trivial rfl ?_;rintro _ _ ⟨rfl,rfl⟩;refine Zfp ?_;refine Wq (GB (l:=A0g kind p o) rfl (Aa rfl) (Aa rfl) (Aa rfl)) ?_;exact Zfi
abbrev rwD(T:Nat)(L:List (Nat×List (Nat->Int))):D:=slD T 1 (L.map λx=>[r5D x.1 x.2])
def Rw8(L:List (Nat×List (Nat->Int))):Prop:=∀x∈L,A0u x.2
abbrev i8D(T:Nat)(V:List Int):D:=slD T 1 (V.map λz=>[ex (.int .i8 z)])
def I8(V:List Int):Prop:=∀z∈V,-128<=z/\z<=127
def FT(Q:List (List Tm)):D:=slD 28 1 (Q.map λP=>[BQ P])
theorem Oo(Q:List (List Tm)):FT Q=Ip (Q.map λP=>P.map EE):=by
 unfold FT Ip;rw[List.map_map];congr 1;exact List.map_congr_left λP _=>by rw[GN];rfl
def Jt(L:List (Nat×List (Nat->Int)))(k:Nat):List (List Tm):=(L.take k).map λx=>YP x.2 2 2 3
abbrev EP(L:List (Nat×List (Nat->Int))):List (List Tm):=Jt L (min L.length 6)
def BF(V:List Int)(k:Nat):Int:=if V.length=0 then 0 else V.getD (k%V.length) default
theorem Fe{V:List Int}(h:I8 V)(k:Nat):-128<=BF V k/\BF V k<=127:=by
 unfold BF;split
 .omega
 .rename_i g
  have K:k%V.length<V.length:=Nat.mod_lt _ ZbK;rw[List.getD_eq_getElem?_getD,List.getElem?_eq_getElem K];exact h _ (List.getElem_mem _)
theorem FA(T:Nat)(V:List Int)(R:I8 V)(k:Nat)(C:k<=1000000)(K:V.length<=9223372036854775807):Abs Tryz.prog 60 [i8D T V,ex (.int .i64 (k:Nat))] (ex (.int .i64 (BF V k))):=by
 by_cases g:V.length=0
 .refine Ab Tryz.func60 λA=>?_
  rw[Tryz.ntmps60];refine Go ?_;exact Ak (Ah (ResV.tmp rfl rfl) (Ac (by rw[BF,if_pos g])))
 .have Q:k%V.length<V.length:=Nat.mod_lt _ ZbK
  have B:=Fe R k;rw[BF,if_neg g]at B;refine Ab Tryz.func60 λA=>?_;rw[Tryz.ntmps60];refine Y1<|Wa<|Y0<|Ao<|Y1<|Wm ?_;refine Wq Cb ?_;refine Wq Bl ?_;refine Y0<|Cf<|Ys<|Y1<|Wm<|Wm<|Wm ?_;refine Wq Cb ?_;refine Wq A2A ?_;refine Wq Dv ?_;refine Wq AO ?_;refine Wq (Gf (ao rfl) (Aa rfl) (Aa rfl) ZbZ ZbZ) ?_;refine Wa<|Y0<|Ci ?_
  exact Ak (Ah (ResV.tmp rfl rfl) (Ac (by simp only[Int.natAbs_natCast];rw[BF,if_neg g])))
theorem Jx(Q:List (List Tm))(i n:Nat)(M:i<=100000)(B:n<=100000)(K:Q.length<=9223372036854775807):Abs Tryz.prog 62 [FT Q,ex (.int .i64 (i:Nat)),ex (.int .i64 (n:Nat))] (FT ((List.range n).map λj=>if Q.length=0 then[]else Q.getD ((i+j)%Q.length) default)):=by
 obtain⟨F,hF⟩:∃F:Nat->List Tm,F=λj=>if Q.length=0 then[]else Q.getD ((i+j)%Q.length) default:=⟨_,rfl⟩
 rw[<-hF];have v:∀k,(List.range (k+1)).map F=(List.range k).map F++[F k]:=λk=>by rw[List.range_succ,List.map_append];rfl
 refine Ab Tryz.func62 λG=>?_;rw[Tryz.ntmps62];refine Go ?_;refine Az (λE d=>∃k,k<=n/\E=n-k/\d=⟨[(0,.d (FT Q)),(1,.d (ex (.int .i64 (i:Nat)))),(2,.d (ex (.int .i64 (n:Nat)))),(7,.own 0),(8,.d (ex (.int .i64 (k:Nat))))],[.row 28 1 (((List.range k).map F).map λP=>[BQ P])]⟩) ?le ⟨0,by omega,rfl,rfl⟩ ?round
 case le=>exact Ad Zdi ZdJ
 case round=>
  rintro E _ ⟨k,C,rfl,rfl⟩;by_cases A:k<n
  .by_cases g:Q.length=0
   .have p:F k=[]:=by rw [hF];exact if_pos g
    refine Ao<|Y1<|Wm<|Wm ?_;refine Wq Bj ?_;refine Y0<|Ct<|Ys<|Ao<|AWp.block<|Y1<|Wm ?_;refine Wq Cb ?_;refine Wq Bj ?_;refine Y0<|Ct<|AWp.region<|Wm ?_;refine TT (Aa rfl) (Aa rfl) rfl rfl rfl rfl rfl ?_
    refine AW (σ':=⟨[(19,.d (BQ [])),(18,.own 0),(0,.d (FT Q)),(1,.d (ex (.int .i64 (i:Nat)))),(2,.d (ex (.int .i64 (n:Nat)))),(8,.d (ex (.int .i64 (k:Nat))))],[.row 28 1 (((List.range k).map F).map λP=>[BQ P])]⟩) ?wk ?_
    case wk=>exact Ad (by exact FrLe.cons rfl (KF rfl (D.le.refl _))<|FrLe.cons rfl (AVle.own rfl)<|Yd<|Yd<|Yd<|Yd<|FrLe.nil) ZdJ
    refine Go ?_;refine Am (n-(k+1)) ZbK ⟨k+1,by omega,rfl,rfl⟩ ?_;exact Ad Zdi (by(refine HpLe.cons (OwLe.row (by rw[v,List.map_append,p];rfl)) ?_);exact HpLe.nil)
   .have p:F k=Q.getD ((i+k)%Q.length) default:=by rw [hF];exact if_neg g
    have y:(i+k)%Q.length<Q.length:=Nat.mod_lt _ ZbK;refine Go ?_;refine Am (n-(k+1)) ZbK ⟨k+1,by omega,rfl,rfl⟩ ?_;exact Ad Zdi (by(refine HpLe.cons (OwLe.row (by rw[v,List.map_append,p];simp only[Int.natAbs_natCast];rfl)) ?_);exact HpLe.nil)
  .obtain rfl:k=n:=by omega
   exact Zfi
theorem Mr(T:Nat)(L:List (Nat×List (Nat->Int)))(F:Rw8 L):Abs Tryz.prog 59 [rwD T L,ex (.int .i64 (2:Nat)),ex (.int .i64 2),ex (.int .i64 (3:Nat)),ex (.int .i64 (6:Nat))] (FT (EP L)):=by
 have v:∀k,k<L.length->Jt L (k+1)=Jt L k++[YP (L.getD k default).2 2 2 3]:=λk C=>by
  unfold Jt;rw[List.take_add_one,List.map_append,List.getD_eq_getElem?_getD,List.getElem?_eq_getElem C];rfl
 refine Ab Tryz.func59 λE=>?_;rw[Tryz.ntmps59];refine Go ?_;refine Az (λB d=>∃k,k<=min L.length 6/\B=min L.length 6-k/\d=⟨[(0,.d (rwD T L)),(1,.d (ex (.int .i64 (2:Nat)))),(2,.d (ex (.int .i64 2))),(3,.d (ex (.int .i64 (3:Nat)))),(4,.d (ex (.int .i64 (6:Nat)))),(11,.own 0),(12,.d (ex (.int .i64 (k:Nat))))],[.row 28 1 ((Jt L k).map λP=>[BQ P])]⟩) ?le ⟨0,by omega,rfl,rfl⟩ ?round
 case le=>exact Ad ZdV ZdJ
 case round=>
  rintro B _ ⟨k,C,rfl,rfl⟩;by_cases Q:k<min L.length 6
  .have t:k<L.length:=by omega
   have b:A0u (L.getD k default).2:=F _ (by rw[List.getD_eq_getElem?_getD,List.getElem?_eq_getElem t];exact List.getElem_mem _);have G:=A0x (L.getD k default).1 (L.getD k default).2 2 3 2 b ZbK ZbK ZbK ZbK;have A:=v k t;have n:(Jt L k).length=min k L.length:=by simp[Jt]
   refine Go ?_;refine Am (min L.length 6-(k+1)) ZbK ⟨k+1,by omega,rfl,rfl⟩ ?_;exact Ad ZdV (by(refine HpLe.cons (OwLe.row (by rw[A,List.map_append];rfl)) ?_);exact HpLe.nil)
  .by_cases t:k<L.length
   .obtain rfl:k=min L.length 6:=by omega
    exact Zfi
   .obtain rfl:k=min L.length 6:=by omega
    exact Zfi
theorem LE(d:Int)(c:Clm):Abs Tryz.prog 16 [ex (.int .i64 d),AJ (El c)] (AJ [ex (.int .i64 d),Jh c.p,DW c.o]):=by
 refine Ab Tryz.func16 λA=>?_;rw[Tryz.ntmps16];exact Zfh
def A52(l:List Int)(j:Nat):Int:=l.getD j 0
def Jg(z:Nat):List (Nat->Int):=
 if z%8=0 then[]else if z%8=1 then[BM 255]else if z%8=2\/z%8=3 then revRows else if z%8=4 then[A52 [2,3,1,1,1,1,1,1]]else if z%8=5 then[A52 [1,1,0,0,0,0,0,0],A52 [1,0,2,1,1,1,1,1]]else BM (z/8%16)::revRows
theorem A4S(h:n<256):IntKind.u8.wrap (n:Int)=n:=by
 exact ZfU
theorem A6w(z:Nat)(B:z<256):IntKind.u8.wrap (((z:Nat):Int).tdiv 8)=((z/8:Nat):Int):=by
 rw[show((z:Nat):Int).tdiv 8=((z/8:Nat):Int)by rw[Int.tdiv_eq_ediv_of_nonneg ZbK];omega];exact A4S ZbK
theorem A0v(z:Nat)(E:z<256):Abs Tryz.prog 63 [ex (.int .u8 (z:Nat))] (DW (Jg z)):=by
 have G:=MZ (z/8%16) ZbK;refine Ab Tryz.func63 λC=>?_;rw[Tryz.ntmps63];by_cases g:z%8=0
 .have O:=A2x;refine Go ?_
  exact Ak (Ah (ResV.tmp rfl rfl) (Ac (by simp[Jg,g])))
 by_cases A:z%8=1
 .have F:=VC;refine Go ?_
  exact Ak (Ah (ResV.tmp rfl rfl) (Ac (by simp[Jg,A])))
 by_cases B:z%8=2
 .have f:=Ma;refine Go ?_
  exact Ak (Ah (ResV.tmp rfl rfl) (Ac (by simp[Jg,B])))
 by_cases L:z%8=3
 .refine Y1<|Wa<|Y0<|Ao<|Y1<|Wm ?_;refine Wq A2A ?_;refine Y0<|AWp.block<|Y1 ?_;refine Wq Bl ?_;refine Wa<|Y0<|Cf<|Y1 ?_;refine Wq Bl ?_;refine Wa<|Y0<|Cf<|Ao<|Y1 ?_;refine Wq Bl ?_;refine Wa<|Y0<|Cf<|AWp.region ?_;refine Wq Bj ?_;refine Wa<|Y0<|Ct<|Y1 ?_;refine Wq (Bs (Ma)) ?_;refine Wa<|Y0<|Ci<|Jf<|Gi ?_
  exact Ak (Ah (ResV.tmp rfl rfl) (Ac (by simp[Jg,L])))
 by_cases V:z%8=4
 .refine Go ?_
  exact Ak (Ah (ResV.tmp rfl rfl) (Ac (by simp only[Jg,V];rfl)))
 by_cases m:z%8=5
 .refine Go ?_
  exact Ak (Ah (ResV.tmp rfl rfl) (Ac (by simp only[Jg,m];rfl)))
 refine Go ?_;refine Wq (HZ (ao rfl) (ao rfl) ZbN (A6w z E)) ?_;refine Go ?_;exact Ak (Ah (ResV.tmp rfl rfl) (Ac (by simp[Jg,g,A,B,L,V,m])))
theorem Gz(a:Int){j:Nat}(e:j<=7):IntKind.i64.wrap (((BitVec.ofInt 64 a &&& BitVec.ofInt 64 ((2^j-1:Nat):Int)).toNat:Nat):Int)=a%((2^j:Nat):Int):=by
 have A:(BitVec.ofInt 64 ((2^j-1:Nat):Int)).toNat=2^j-1:=by
  rcases(show j=0\/j=1\/j=2\/j=3\/j=4\/j=5\/j=6\/j=7 by omega)with rfl | rfl | rfl | rfl | rfl | rfl | rfl | rfl<;>rfl
 rw[BitVec.toNat_and,A,BitVec.toNat_ofInt,Nat.and_two_pow_sub_one_eq_mod]
 have B:∀x:Nat,x<128->IntKind.i64.wrap (x:Int)=x:=λx E=>by
  exact ZfU
 rcases(show j=0\/j=1\/j=2\/j=3\/j=4\/j=5\/j=6\/j=7 by omega)with rfl | rfl | rfl | rfl | rfl | rfl | rfl | rfl<;>(rw[B _ ZbK];omega)
section
variable {P:Program} {hp:List Ow} {arg:Operand->AV} {dd:Option Tmp} {ty:TypeId} {ps:String} {af:Array Edge} {gd:Option (Nat×Bool)} {T U:TypeId} {x y:Operand} {a b r:Int} {k:IntKind}
theorem Ib(E:arg x=.d (ex (.int k a)))(O:arg y=.d (ex (.int k b)))(A:k.wrap ((BitVec.ofInt k.bits a &&& BitVec.ofInt k.bits b).toNat)=r):Quiet P hp ⟨dd,.binOp .and T x y U,ty,ps,af,gd⟩ arg (.d (ex (.int k r))):=
 Cz rfl E O λw=>by
  simp only[eqGuard,binOp,Op.intBits,A];simp[A]
theorem DP(j:Nat)(E:arg x=.d (ex (.int .i64 a)))(O:arg y=.d (ex (.int .i64 ((2^j-1:Nat):Int))))(e:j<=7):Quiet P hp ⟨dd,.binOp .and T x y U,ty,ps,af,gd⟩ arg (.d (ex (.int .i64 (a%((2^j:Nat):Int))))):=
 Ib E O (Gz a e)
end
theorem Pp(n d:Int)(A:-128<=n)(B:n<=127)(L:0<d)(V:d<=127):Abs Tryz.prog 113 [AJ [ex (.int .i8 n),ex (.int .i8 d),ex (.int .u8 0)]] (AJ (Eh (Rat.divInt n d))):=by
 have b:(Aq n.natAbs).length<=1:=by simpa using(Ig (x:=n) ZbK ZbK).1
 have F:(Aq d.natAbs).length<=1:=by simpa using(Ig (x:=d) ZbK ZbK).1
 have c:=IV n ZbK ZbK;have a:=IV d ZbK ZbK;have N:=IV 4611686018427387904 ZbN ZbN;have E:=LW n d ZbK ZbK ZbK;refine Ab Tryz.func113 λC=>?_;rw[Tryz.ntmps113];refine Go ?_;refine Dy 10 ?_;exact Zif
theorem A2a{a:Int}(g:-128<=a)(A:a<=127):IntKind.i8.wrap a=a:=by
 exact ZfU
theorem A1A{c:e->List D}{x d:Nat->e}:FU (Yj (λi=>c (if i<n then x i else d i)) n (c (x n)))=FU λi=>c (if i<n+1 then x i else d i):=by
 congr 1;funext i;unfold Yj;by_cases h:i=n
 .subst h
  simp
 .by_cases a:i<n
  .simp [h,a,show i<n+1 by omega]
  .simp [h,a,show¬i<n+1 by omega]
theorem YX{n d:Int}(A:-128<=n)(B:n<=127)(L:0<d)(V:d<=127):RSz (Rat.divInt n d) 2:=by
 rw[Rat.divInt_eq_div,Rat.div_def]
 exact RSz.mul (Ig (x := n) ZbK ZbK : RSz ((n : Int) : Rat) 1) (A4j (Ig (x := d) ZbK ZbK : RSz ((d : Int) : Rat) 1) (by
  show(d:Rat).num≠0;rw[Rat.num_intCast];omega))
abbrev zI:RQ×RQ:=(ofQ ((0:Int):Rat),ofQ ((0:Int):Rat))
def loB(V:List Int)(k i:Nat):Rat:=Rat.divInt (BF V (k+i)) 3
def wiB(V:List Int)(k:Nat):Rat:=Rat.divInt (BF V k%8) 2
def ivB(V:List Int)(k i:Nat):RQ×RQ:=(ofQ (loB V k i),ofQ (loB V k i+wiB V k))
def MX(V:List Int)(k:Nat)(i:Nat):RQ×RQ:=if i<2 then ivB V k i else zI
theorem Vy(T:Nat)(V:List Int)(R:I8 V)(K:V.length<=9223372036854775807)(m:Nat)(t:m<=1000):Abs Tryz.prog 64 [i8D T V,ex (.int .i64 (m:Nat))] (AJ (DH (MX V m))):=by
 have G:=Ft 0 ZbN ZbN;have B:=Fe R m;have e:=FA T V R m ZbK K;have u:=Pp (BF V m%8) 2 ZbK ZbK ZbK ZbK;refine Ab Tryz.func64 λA=>?_;rw[Tryz.ntmps64];refine Go ?_;refine Az (λP d=>∃k,k<=8/\P=8-k/\d=⟨[(0,.d (i8D T V)),(1,.d (ex (.int .i64 (m:Nat)))),(4,.ptr 0 0),(5,.ptr 1 0),(6,.d (ex (.int .i64 (k:Nat))))],[.var 131 ((DH λ_=>default).map .d),.var 131 ((FU λi=>Lw (if i<k then zI else default)).map .d)]⟩) ?le ⟨0,by omega,rfl,rfl⟩ ?round
 case le=>exact Ad Zdt (by exact HpLe.cons (HC OL)<|HpLe.cons (HC OL)<|HpLe.nil)
 case round=>
  rintro P _ ⟨k,C,rfl,rfl⟩;by_cases Q:k<8
  .refine Go ?_;refine OJ (ao rfl) (ao rfl) rfl (Aa rfl) rfl (IT (λ_=>rfl) rfl Q) rfl ?_;refine Go ?_
   refine Am (8-(k+1)) ZbK ⟨k+1,by omega,rfl,rfl⟩ ?_;exact Ad Zdt (by apply Yv;refine HpLe.cons (OwLe.varD (A1A (c:=Lw) (x:=λ_=>zI) (d:=λ_=>default))) ?_;exact HpLe.nil)
  .obtain rfl:k=8:=by omega
   refine Go ?_;refine Az (λP d=>∃k,k<=2/\P=2-k/\d=⟨[(0,.d (i8D T V)),(1,.d (ex (.int .i64 (m:Nat)))),(4,.ptr 0 0),(5,.ptr 1 0),(7,.d (ex (.int .i64 (k:Nat))))],[.var 131 ((DH λ_=>default).map .d),.var 131 ((FU λi=>Lw (if i<k then ivB V m i else zI)).map .d)]⟩) ?le2 ⟨0,by omega,rfl,rfl⟩ ?round2
   case le2=>exact Ad Zdt Zcs
   case round2=>
    rintro P _ ⟨k,C,rfl,rfl⟩;by_cases Q:k<2
    .have w:=Fe R (m+k)
     have F:=FA T V R (m+k) ZbK K;have E:=Pp (BF V (m+k)) 3 ZbK ZbK ZbK ZbK;have f:=MN (loB V m k) (wiB V m) 2 2 (YX ZbK ZbK ZbK ZbK) (YX ZbK ZbK ZbK ZbK) ZbK;refine Ao<|Y1<|Wm ?_;refine Wq Bj ?_;refine Y0<|Ct<|Ys<|Ao<|AWp.block<|Y1<|Wm<|Wm<|Wm ?_;refine Wq Tw ?_;refine Wq (Bs (F)) ?_;refine Wq (AC (ao rfl) (Aa rfl) (Aa rfl) (A2a ZbK ZbK)) ?_;(refine CU rfl rfl ?_;(refine AT (Aa rfl) rfl rfl rfl ?_;(repeat ((first | refine⟨_,AA (ao rfl),?_⟩ | refine⟨_,Po rfl,?_⟩);refine⟨_,rfl,?_⟩));refine⟨_,rfl,?_⟩));refine Wq (Bs (E)) ?_;refine Al ?_;refine Sf ?_;apply Y0
     refine Dy 13 ?_;refine Cw ?_;refine Xq (DP 3 rfl rfl ZbK) ?_;refine⟨_,HStep.q rfl (AC (ah rfl) (Aa rfl) (Aa rfl) (A2a (a:=BF V m%8) ZbK ZbK)),?_⟩;refine Cw ?_;refine OJ (ao rfl) (ao rfl) rfl (Aa rfl) rfl (IT (i:=k) (v:=Lw (ivB V m k)) (λ_=>rfl) rfl ZbK) rfl ?_;refine ZfX ?_;exact Ad Zdt (by apply Yv;refine HpLe.cons (OwLe.varD (A1A (c:=Lw) (x:=ivB V m) (d:=λ_=>zI))) ?_;exact HpLe.nil)
    .obtain rfl:k=2:=by omega
     exact Zfh
def Dq(d kind n:Int)(E x one y:Bool):Bool:=
 (d==1&&((kind==1||kind==2)&&x))||(d==2&&(kind==3||kind==2&&E&&one))||(d==3&&(kind==4&&y))||(d==4&&kind==5)||(d==5&&kind==6)||(d==6&&kind==7)||(d==7&&(kind==8&&x))||(d==8&&(kind==9||kind==6||kind==13&&decide (n ≥ 1)))||(d==9&&(kind==10&&x))||(d==10&&kind==11)
abbrev A6F(d:Int)(Q:List Tm)(o:List (Nat->Int)):List D:=[ex (.int .i64 d),BQ Q,DW o]
theorem A5a:PSz (FG ((1:Int):Rat)) 1000000000:=λt J=>by
 rw[FG,if_neg ZbN,List.mem_singleton]at J;subst J;exact(Ig (x:=1) ZbN ZbN:RSz ((1:Int):Rat) 1).mono ZbN
theorem NP(k:Cor)(W:Int)(P Q:List Tm)(C:List (Nat->Int))(kind n d r:Int)(o:List (Nat->Int))(l:List (List RTm))(s:List Int)(b:List (Nat->RQ×RQ))(R:PSz P 1000000000)(X:PSz Q 1000000000)(i:P.length<=1000000)(t:Q.length<=1000000)(E:o.length<=1000000)(N:C.length<=1000000)(p:k.f.length<=1000000) :
  Abs Tryz.prog 27 [AJ (Fm k),AJ (A6F W Q C),AJ (El ⟨kind,P.map EE,n,d,r,o,l,s,b⟩)] (ex (.bool (Dq W kind n (decide (k.f.length=0)) (decide (CB P Q=0)) (decide (CB P (FG 1)=0)) (decide (GA o C))))):=by
 have a:=KD P Q R X i t;have v:=WM 1 ZbN ZbN;have I:=XO ((1:Int):Rat);have c:=KD P (FG ((1:Int):Rat)) R A5a i ZbN;have q:=SG o C E N;obtain⟨w,e,f⟩:=k;rw[show El ⟨kind,P.map EE,n,d,r,o,l,s,b⟩=[ex (.int .i64 kind),BQ P,ex (.int .i64 n),ex (.int .i64 d),ex (.int .i64 r),DW o,Ip l,LG s,Gy b]by rw[GN];rfl];refine Ab Tryz.func27 λG=>?_;rw[Tryz.ntmps27];refine Go ?_;refine CF 0 3 rfl rfl rfl ?_;refine CF 1 4 rfl rfl rfl ?_;refine CF 2 5 rfl rfl rfl ?_;refine Go ?_;by_cases A:W=1
 .subst A
  refine Go ?_;refine Wh (λJ=>AP) ?_;refine Ze 16 rfl (λJ=>AO) ?_;refine Ze 17 rfl (λJ=>Ch) ?_;refine ZhF ?_;refine Ee 21 rfl (λJ=>AO) ?_;refine HX (λJ=>AP) ?_;refine Ee 23 rfl (λJ=>AO) ?_;refine Wu2 22 rfl 24 rfl (λJ=>Bs (a)) ?_;exact Zfe
 by_cases B:W=2
 .subst B
  by_cases Z:kind=3
  .subst Z
   refine Go ?_;exact Zji
  by_cases Y:kind=2
  .subst Y
   exact Zbk
  exact Zbk
 by_cases L:W=3
 .subst L
  refine ZhF ?_;refine Ee 57 rfl (λJ=>AO) ?_;refine HX (λJ=>AP) ?_;refine Ee 59 rfl (λJ=>AO) ?_;refine Wu2 58 rfl 60 rfl (λJ=>Bs (q)) ?_;exact Zfe
 by_cases V:W=4
 .exact Zbl
 by_cases m:W=5
 .exact Zbm
 by_cases F:W=6
 .exact Zbn
 by_cases M:W=7
 .subst M
  refine ZhF ?_;refine Ee 84 rfl (λJ=>AO) ?_;refine HX (λJ=>AP) ?_;refine Ee 86 rfl (λJ=>AO) ?_;refine Wu2 85 rfl 87 rfl (λJ=>Bs (a)) ?_;exact Zfe
 by_cases u:W=8
 .subst u
  by_cases j:kind=9
  .subst j
   exact Zfe
  by_cases g:kind=6
  .exact Zbo
  by_cases h:kind=13
  .subst h
   exact Zfe
  exact Zgh
 by_cases S:W=9
 .subst S
  refine ZhF ?_;refine Ee 116 rfl (λJ=>AO) ?_;refine HX (λJ=>AP) ?_;refine Ee 118 rfl (λJ=>AO) ?_;refine Wu2 117 rfl 119 rfl (λJ=>Bs (a)) ?_;exact Zfe
 by_cases O:W=10
 .exact Zbp
 refine Go ?_;exact Ak (Ah (ResV.tmp rfl rfl) (Ac (congrArg (λz=>ex (.bool z)) (by rw[Bool.eq_iff_iff];simp[Dq,A,B,L,V,m,F,M,u,S,O]))))
theorem Mb(k:Cor)(S:Int)(P Q:List Tm)(C:List (Nat->Int))(kind n d r:Int)(o:List (Nat->Int))(l:List (List RTm))(s:List Int)(b:List (Nat->RQ×RQ))(E:o.length<=1000000)(N:C.length<=1000000)(p:k.f.length<=1000000) :
  Abs Tryz.prog 28 [AJ (Fm k),AJ (A6F S Q C),AJ (El ⟨kind,P.map EE,n,d,r,o,l,s,b⟩)] (ex (.bool (Dq S kind n (decide (k.f.length=0)) (Fn Q P) (Fn P (FG 1)) (decide (GA C o))))):=by
 have a:=Ln Q P;have i:=Ft 1 ZbN ZbN;have I:=Xp ((1:Int):Rat);have c:=Ln P (FG ((1:Int):Rat));have h:=Xr C o N E;obtain⟨j,e,f⟩:=k;rw[show El ⟨kind,P.map EE,n,d,r,o,l,s,b⟩=[ex (.int .i64 kind),BQ P,ex (.int .i64 n),ex (.int .i64 d),ex (.int .i64 r),DW o,Ip l,LG s,Gy b]by rw[GN];rfl];refine Ab Tryz.func28 λG=>?_;rw[Tryz.ntmps28];refine Go ?_;refine CF 0 3 rfl rfl rfl ?_;refine CF 1 4 rfl rfl rfl ?_;refine CF 2 5 rfl rfl rfl ?_;refine Go ?_;by_cases A:S=1
 .subst A
  refine Go ?_;refine Wh (λJ=>AP) ?_;refine Ze 21 rfl (λJ=>AO) ?_;refine Ze 22 rfl (λJ=>Ch) ?_;refine Go ?_;exact ZhM
 by_cases B:S=2
 .subst B
  by_cases X:kind=3
  .subst X
   refine Go ?_;refine Dy 21 ?_;refine Zfn ?_;exact Zji
  by_cases W:kind=2
  .subst W
   exact Zbq
  exact Zbq
 by_cases L:S=3
 .subst L
  refine ZhF ?_;refine Ee 57 rfl (λJ=>AO) ?_;refine HX (λJ=>AP) ?_;refine Ee 59 rfl (λJ=>AO) ?_;refine Wu2 58 rfl 60 rfl (λJ=>Bs (h)) ?_;exact Zfe
 by_cases V:S=4
 .exact Zbl
 by_cases m:S=5
 .exact Zbm
 by_cases F:S=6
 .exact Zbn
 by_cases M:S=7
 .subst M
  refine Go ?_;exact ZhM
 by_cases u:S=8
 .subst u
  by_cases g:kind=9
  .exact Zbo
  by_cases Y:kind=6
  .subst Y
   exact Zfe
  by_cases Z:kind=13
  .subst Z
   exact Zfe
  exact Zgh
 by_cases R:S=9
 .subst R
  refine Go ?_;exact ZhM
 by_cases O:S=10
 .exact Zbp
 refine Go ?_;exact Ak (Ah (ResV.tmp rfl rfl) (Ac (congrArg (λz=>ex (.bool z)) (by rw[Bool.eq_iff_iff];simp[Dq,A,B,L,V,m,F,M,u,R,O]))))
def DT(d kind n r m:Int):Int:=if d=5 then(if kind=6 then n else 0)else if d=8\/d=6 then(if kind=6 then r else if kind=7\/kind=8 then m else if kind=13 then n else 0)else 0
def Em(d kind n r m:Int):Int:=if d=5 then(if kind=6\/kind=12 then n else -1)else if d=8\/d=6 then(if kind=6 then r else if kind=7\/kind=8 then m else if kind=9 then 0 else if kind=12 then n else -1)else -1
theorem QN(C:Int)(q:D)(A:List (Nat->Int))(c:Clm)(F:c.b.length<=1000000) :
  Abs Tryz.prog 25 [AJ [ex (.int .i64 C),q,DW A],AJ (El c)] (EY [ex (.int .i64 (DT C c.kind c.n c.r (c.b.length:Nat))),ex (.int .i64 (Em C c.kind c.n c.r (c.b.length:Nat)))]):=by
 obtain⟨kind,p,n,d,r,o,l,s,b⟩:=c;refine Ab Tryz.func25 λB=>?_;rw[Tryz.ntmps25];refine Go ?_;refine CF 0 2 rfl rfl rfl ?_;refine CF 1 3 rfl rfl rfl ?_;refine Go ?_;by_cases g:C=5
 .subst g
  by_cases k:kind=6
  .exact Zbr
  exact ZbD
 by_cases K:C=8
 .subst K
  by_cases k:kind=6
  .exact Zbr
  exact Zbt
 by_cases I:C=6
 .subst I
  by_cases k:kind=6
  .exact Zbr
  exact Zbt
 refine Go ?_;exact Zjj
theorem VD(C:Int)(q:D)(A:List (Nat->Int))(c:Clm)(F:c.b.length<=1000000) :
  Abs Tryz.prog 26 [AJ [ex (.int .i64 C),q,DW A],AJ (El c)] (EY [ex (.int .i64 (DT C c.kind c.n c.r (c.b.length:Nat))),ex (.int .i64 (Em C c.kind c.n c.r (c.b.length:Nat)))]):=by
 obtain⟨kind,p,n,d,r,o,l,s,b⟩:=c;refine Ab Tryz.func26 λB=>?_;rw[Tryz.ntmps26];apply Y1;refine Bx ?_;refine Bx ?_;refine Wa<|Wa<|Y0 ?_;refine CF 0 2 rfl rfl rfl ?_;refine CF 1 3 rfl rfl rfl ?_;apply Ao
 by_cases g:C=5
 .subst g
  refine ZgF ?_;by_cases k:kind=6
  .exact Zbr
  exact ZbD
 by_cases K:C=8
 .subst K
  exact Zbu
 by_cases I:C=6
 .subst I
  exact Zbu
 refine ZgF ?_;exact Zjj
theorem WU (a b c d : Int) (w : World) : (do eqGuard .eql 225 x y (.agg #[.int .i64 a, .int .i64 b]) (.agg #[.int .i64 c, .int .i64 d]); binOp .eql 225 (.agg #[.int .i64 a, .int .i64 b]) (.agg #[.int .i64 c, .int .i64 d]) : Sem Value).run Tryz.prog w = .ok (.bool (a == c && b == d)) w := by
 rw [Sem.run_bind,run_eqGuard_agg (hm:=by kernel_rfl),Result.andThen_ok,run_eql_struct,run_equalIn_struct (ht:=by kernel_rfl) (hp:=by kernel_rfl)];have p : (Tryz.prog.fieldsOf 225).toList = [⟨"lo", 3, 0, false, "", "eliminant/claim", 0⟩, ⟨"hi", 3, 1, false, "", "eliminant/claim", 8⟩] := by kernel_rfl
 rw[p];simp[Op.eqFields,go_sem];by_cases A:a=c<;>by_cases B:b=d<;>simp[A,B]
theorem A3B (a b c d e f : Int) (w : World) : (do eqGuard .neq 222 x y (.agg #[.int .i64 a, .int .i64 b, .int .i64 c]) (.agg #[.int .i64 d, .int .i64 e, .int .i64 f]); binOp .neq 222 (.agg #[.int .i64 a, .int .i64 b, .int .i64 c]) (.agg #[.int .i64 d, .int .i64 e, .int .i64 f]) : Sem Value).run Tryz.prog w = .ok (.bool (!(a == d && b == e && c == f))) w := by
 obtain⟨i,M⟩:∃i,Tryz.prog.info? 3=some i:=Option.isSome_iff_exists.1 ZbM;have A:=λW=>run_equalIn_array (P:=Tryz.prog) W 9999 (t:=222) (e:=3) (n:=3) #[.int .i64 a,.int .i64 b,.int .i64 c] #[.int .i64 d,.int .i64 e,.int .i64 f] ZbM M;rw[Sem.run_bind,run_eqGuard_agg (hm:=by kernel_rfl),Result.andThen_ok,run_neq_struct,A];have C:(List.range 3)=[0,1,2]:=rfl;have G:Tryz.prog.cellsOf 3=1:=by kernel_rfl
 rw[C,G];simp[Op.eqItems,go_sem];by_cases A:a=d<;>by_cases B:b=e<;>by_cases L:c=f<;>simp[A,B,L]
abbrev in3(a b c:Int):List D:=[ex (.int .i64 a),ex (.int .i64 b),ex (.int .i64 c)]
abbrev in2(a b:Int):List D:=[ex (.int .i64 a),ex (.int .i64 b)]
section
variable {hp:List Ow} {arg:Operand->AV} {dd:Option Tmp} {ty:TypeId} {ps:String} {af:Array Edge} {gd:Option (Nat×Bool)}
theorem A0E{a b c d:Int}(E:arg x=.d (AJ (in2 a b)))(O:arg y=.d (AJ (in2 c d))):Quiet Tryz.prog hp ⟨dd,.binOp .eql 225 x y t,ty,ps,af,gd⟩ arg (.d (ex (.bool (a==c&&b==d)))):=
 Gd rfl E O (λ_ _ h=>Vq (l:=[.int .i64 a,.int .i64 b]) h) (λ_ _ h=>Vq (l:=[.int .i64 c,.int .i64 d]) h) λw=>WU a b c d w
theorem A5V{a b c d e f:Int}(E:arg x=.d (AJ (in3 a b c)))(O:arg y=.d (AJ (in3 d e f))):Quiet Tryz.prog hp ⟨dd,.binOp .neq 222 x y t,ty,ps,af,gd⟩ arg (.d (ex (.bool (!(a==d&&b==e&&c==f))))):=
 Gd rfl E O (λ_ _ h=>Vq (l:=[.int .i64 a,.int .i64 b,.int .i64 c]) h) (λ_ _ h=>Vq (l:=[.int .i64 d,.int .i64 e,.int .i64 f]) h) λw=>A3B a b c d e f w
end
theorem Sd(a b c d:Int):Abs Tryz.prog 145 [AJ (in2 a b),AJ (in2 c d)] (ex (.bool (decide (b<c)||decide (d<a)))):=by
 refine Ab Tryz.func145 λA=>?_;rw[Tryz.ntmps145];apply Y1;refine Bx ?_;refine Bx ?_;refine Wa<|Y0 ?_;refine CF 0 2 rfl rfl rfl ?_;refine CF 1 3 rfl rfl rfl ?_;apply Y1;refine Wq AP ?_;refine Wq AO ?_;refine Wq AP ?_;refine Wq AO ?_;refine Wq Ch ?_;refine Wm ?_;refine Wh (λV=>AP) ?_;refine Ze 11 rfl (λV=>AO) ?_;refine Wh (λV=>AP) ?_;refine Ze 13 rfl (λV=>AO) ?_;refine Wv2 12 rfl 14 rfl (λV=>Ch) ?_;refine Wq Mc ?_;refine Wa<|Y0<|Ci ?_
 exact Yf
def Lj(s:List Int)(v:Int):Nat:=s.countP λx=>x==v
theorem MV{s:List Int}(h:n<s.length)(v:Int):Lj (s.take (n+1)) v=Lj (s.take n) v+(if s.getD n default=v then 1 else 0):=by
 unfold Lj;rw[List.take_add_one,List.countP_append,List.getD_eq_getElem?_getD,List.getElem?_eq_getElem h];simp[List.countP_cons]
theorem A43(s:List Int)(v:Int):Lj s v<=s.length:=List.countP_le_length
def QT(I kind n d:Int):Int×Int:=if kind=6 then(n,n)else if kind=5 then(if 0<d then(I,I)else if d=0 then(n,n)else(0,0))else if kind=12 then(0,n)else if kind=7\/kind=8 then(0,I-1)else(0,I)
def Wd(I kind n r m:Int):Int×Int:=if kind=6 then(r,r)else if kind=7\/kind=8 then(m,m)else if kind=9 then(0,0)else if kind=13 then(n,I)else(0,I)
theorem Qp(c:Clm)(F:c.b.length<=1000000):Abs Tryz.prog 143 [AJ (El c)] (AJ (in2 (QT 1073741824 c.kind c.n c.d).1 (QT 1073741824 c.kind c.n c.d).2)):=by
 obtain⟨kind,p,n,d,r,o,l,s,b⟩:=c;rw[show El ⟨kind,p,n,d,r,o,l,s,b⟩=[ex (.int .i64 kind),Jh p,ex (.int .i64 n),ex (.int .i64 d),ex (.int .i64 r),DW o,Ip l,LG s,Gy b]from rfl];refine Ab Tryz.func143 λA=>?_;rw[Tryz.ntmps143];refine Go ?_;refine CF 0 1 rfl rfl rfl ?_;refine Go ?_;by_cases k:kind=6
 .subst k
  exact Zfr
 by_cases E:kind=5
 .subst E
  by_cases M:0<d
  .exact Zbv
  by_cases C:d=0
  .exact Zbv
  exact Zfr
 by_cases B:kind=12
 .subst B
  exact Zfr
 by_cases f:kind=7
 .subst f
  exact Zfr
 by_cases g:kind=8
 .subst g
  exact Zfr
 exact Zfr
theorem Pj(c:Clm)(F:c.b.length<=1000000):Abs Tryz.prog 144 [AJ (El c)] (AJ (in2 (Wd 1073741824 c.kind c.n c.r (c.b.length:Nat)).1 (Wd 1073741824 c.kind c.n c.r (c.b.length:Nat)).2)):=by
 obtain⟨kind,p,n,d,r,o,l,s,b⟩:=c;rw[show El ⟨kind,p,n,d,r,o,l,s,b⟩=[ex (.int .i64 kind),Jh p,ex (.int .i64 n),ex (.int .i64 d),ex (.int .i64 r),DW o,Ip l,LG s,Gy b]from rfl];refine Ab Tryz.func144 λA=>?_;rw[Tryz.ntmps144];refine Go ?_;refine CF 0 1 rfl rfl rfl ?_;refine Go ?_;by_cases k:kind=6
 .subst k
  exact Zfs
 by_cases f:kind=7
 .subst f
  exact Zfs
 by_cases g:kind=8
 .subst g
  exact Zfs
 by_cases a:kind=9
 .subst a
  exact Zfs
 by_cases B:kind=13
 .subst B
  exact Zfs
 exact Zfs
abbrev cn3(s:List Int):List D:=in3 (Lj s (-1):Nat) (Lj s 0:Nat) (Lj s 1:Nat)
theorem JP(s:List Int)(hs:s.length<=1000000):Abs Tryz.prog 142 [LG s] (AJ (cn3 s)):=by
 refine Ab Tryz.func142 λs0=>?_
 rw [Tryz.ntmps142]
 refine Go ?_
 refine Az (λmz σ=>∃k,k<=s.length/\mz=s.length-k/\σ=⟨[(2,.ptr 0 0),(3,.ptr 1 0),(6,.d (LG s)),(7,.d (ex (.int .i64 (s.length:Nat)))),(8,.d (ex (.int .i64 (k:Nat))))],[.var 222 ((in3 0 0 0).map .d),.var 222 ((cn3 (s.take k)).map .d)]⟩) ?le ⟨0,by omega,rfl,rfl⟩ ?round
 case le=>exact Ad (by exact Yp<|Yp<|Yd<|Yd<|Yd<|FrLe.nil) (by refine HpLe.cons (OwLe.cells (by repeat (first | exact CellsLe.nil | refine CellsLe.cons (AVle.d rfl) ?_ | refine CellsLe.cons (AVle.le Bf) ?_))) ?_;refine HpLe.cons (OwLe.cells (by repeat (first | exact CellsLe.nil | refine CellsLe.cons (AVle.d rfl) ?_ | refine CellsLe.cons (AVle.le Bf) ?_))) ?_;exact HpLe.nil)
 case round=>
  rintro mz _ ⟨k,hk,rfl,rfl⟩
  by_cases hlt:k<s.length
  .have hv:∀v:Int, Lj (s.take k) v<=k:=λv=>Nat.le_trans (A43 _ v) (by rw [List.length_take]; omega)
   have h1:=MV hlt (-1)
   have h2:=MV hlt 0
   have h3:=MV hlt 1
   have hv1:=hv (-1)
   have hv2:=hv 0
   have hv3:=hv 1
   by_cases g1:s.getD k default = -1
   .rw [g1] at h1 h2 h3
    simp at h1 h2 h3
    refine Go ?_
    rw [g1]
    refine Go ?_
    refine Am (s.length-(k+1)) (by omega) ⟨k+1,by omega,rfl,rfl⟩ ?_
    exact Ad (by exact Yp<|Yp<|Yd<|Yd<|Yd<|FrLe.nil) (by refine HpLe.cons (OwLe.cells (CellsLe.cons (AVle.int (by omega)) (CellsLe.cons (AVle.int (by omega)) (CellsLe.cons (AVle.int (by omega)) CellsLe.nil)))) ?_;refine HpLe.cons (OwLe.cells (CellsLe.cons (AVle.int (by omega)) (CellsLe.cons (AVle.int (by omega)) (CellsLe.cons (AVle.int (by omega)) CellsLe.nil)))) ?_;exact HpLe.nil)
   by_cases g2:s.getD k default=0
   .rw [g2] at h1 h2 h3
    simp at h1 h2 h3
    refine Go ?_
    rw [g2]
    refine Go ?_
    refine Am (s.length-(k+1)) (by omega) ⟨k+1,by omega,rfl,rfl⟩ ?_
    exact Ad (by exact Yp<|Yp<|Yd<|Yd<|Yd<|FrLe.nil) (by refine HpLe.cons (OwLe.cells (CellsLe.cons (AVle.int (by omega)) (CellsLe.cons (AVle.int (by omega)) (CellsLe.cons (AVle.int (by omega)) CellsLe.nil)))) ?_;refine HpLe.cons (OwLe.cells (CellsLe.cons (AVle.int (by omega)) (CellsLe.cons (AVle.int (by omega)) (CellsLe.cons (AVle.int (by omega)) CellsLe.nil)))) ?_;exact HpLe.nil)
   by_cases g3:s.getD k default=1
   .rw [g3] at h1 h2 h3
    simp at h1 h2 h3
    refine Go ?_
    rw [g3]
    refine Go ?_
    refine Am (s.length-(k+1)) (by omega) ⟨k+1,by omega,rfl,rfl⟩ ?_
    exact Ad (by exact Yp<|Yp<|Yd<|Yd<|Yd<|FrLe.nil) (by refine HpLe.cons (OwLe.cells (CellsLe.cons (AVle.int (by omega)) (CellsLe.cons (AVle.int (by omega)) (CellsLe.cons (AVle.int (by omega)) CellsLe.nil)))) ?_;refine HpLe.cons (OwLe.cells (CellsLe.cons (AVle.int (by omega)) (CellsLe.cons (AVle.int (by omega)) (CellsLe.cons (AVle.int (by omega)) CellsLe.nil)))) ?_;exact HpLe.nil)
   rw [if_neg g1] at h1
   rw [if_neg g2] at h2
   rw [if_neg g3] at h3
   by_cases g4:s.getD k default < -1
   .refine Go ?_
    refine Am (s.length-(k+1)) (by omega) ⟨k+1,by omega,rfl,rfl⟩ ?_
    exact Ad (by exact Yp<|Yp<|Yd<|Yd<|Yd<|FrLe.nil) (by refine HpLe.cons (OwLe.cells (CellsLe.cons (AVle.int (by omega)) (CellsLe.cons (AVle.int (by omega)) (CellsLe.cons (AVle.int (by omega)) CellsLe.nil)))) ?_;refine HpLe.cons (OwLe.cells (CellsLe.cons (AVle.int (by omega)) (CellsLe.cons (AVle.int (by omega)) (CellsLe.cons (AVle.int (by omega)) CellsLe.nil)))) ?_;exact HpLe.nil)
   have g5:1<s.getD k default:=by omega
   refine Go ?_
   refine Am (s.length-(k+1)) (by omega) ⟨k+1,by omega,rfl,rfl⟩ ?_
   exact Ad (by exact Yp<|Yp<|Yd<|Yd<|Yd<|FrLe.nil) (by refine HpLe.cons (OwLe.cells (CellsLe.cons (AVle.int (by omega)) (CellsLe.cons (AVle.int (by omega)) (CellsLe.cons (AVle.int (by omega)) CellsLe.nil)))) ?_;refine HpLe.cons (OwLe.cells (CellsLe.cons (AVle.int (by omega)) (CellsLe.cons (AVle.int (by omega)) (CellsLe.cons (AVle.int (by omega)) CellsLe.nil)))) ?_;exact HpLe.nil)
  .obtain rfl:k=s.length:=by omega
   refine Go ?_
   exact Ak (Ah (ResV.cell rfl rfl (Aa rfl) rfl rfl rfl) (Ac (by rw [List.take_length])))
abbrev YZ(kind:Int)(P:List Tm)(n d r:Int)(o:List (Nat->Int))(l:List (List RTm))(s:List Int)(b:List (Nat->RQ×RQ)):List D:=[ex (.int .i64 kind),BQ P,ex (.int .i64 n),ex (.int .i64 d),ex (.int .i64 r),DW o,Ip l,LG s,Gy b]
theorem Tn(kind:Int)(P:List Tm)(n d r:Int)(o:List (Nat->Int))(l:List (List RTm))(s:List Int)(b:List (Nat->RQ×RQ)):El ⟨kind,P.map EE,n,d,r,o,l,s,b⟩=YZ kind P n d r o l s b:=by
 unfold YZ;rw[GN];rfl
def eq3(s j:List Int):Bool:=((Lj s (-1):Nat):Int)==((Lj j (-1):Nat):Int)&&((Lj s 0:Nat):Int)==((Lj j 0:Nat):Int)&&((Lj s 1:Nat):Int)==((Lj j 1:Nat):Int)
def Ug(q:Bool)(kind z n Y d S r b:Int)(s j:List Int):Bool:=
 ((kind==1&&z==2)&&q)||((kind==5&&z==5)&&(d != S||n != Y))||((kind==6&&z==6)&&(n != Y||d != S||r != b))||((kind==8&&z==8)&&(q && !eq3 s j))||((kind==10&&z==8)&&(q&&decide ((0:Int)<((Lj j (-1):Nat):Int))))
def rgP(kind:Int)(u n v S:Int×Int):Bool:=
 ((decide (u.2<n.1)||decide (n.2<u.1))||(decide (v.2<S.1)||decide (S.2<v.1)))||decide (v.1>n.2)
theorem RX(kind g:Int)(P y:List Tm)(n Y d O r M:Int)(o C:List (Nat->Int))(l N:List (List RTm))(s j:List Int)(b G:List (Nat->RQ×RQ))(R:PSz P 1000000000)(T:PSz y 1000000000)(i:P.length<=1000000)(Q:y.length<=1000000)(f:s.length<=1000000)(h:j.length<=1000000)(F:b.length<=1000000)(p:G.length<=1000000)(u m v S:Int×Int)(L:QT 1073741824 kind n d=u)(xa:QT 1073741824 g Y O=m)(E:Wd 1073741824 kind n r (b.length:Nat)=v)(e:Wd 1073741824 g Y M (G.length:Nat)=S) :
  Abs Tryz.prog 71 [AJ (YZ kind P n d r o l s b),AJ (YZ g y Y O M C N j G)] (ex (.bool (Ug (decide (CB P y=0)) kind g n Y d O r M s j||rgP kind u m v S||(kind==2&&(m.1==0&&m.2==0))))):=by
 have a:=KD P y R T i Q;have W:=JP s f;have xd:=JP j h;have K:=Qp ⟨kind,P.map EE,n,d,r,o,l,s,b⟩ F;have xb:=Qp ⟨g,y.map EE,Y,O,M,C,N,j,G⟩ p;have cr:=Pj ⟨kind,P.map EE,n,d,r,o,l,s,b⟩ F;have xc:=Pj ⟨g,y.map EE,Y,O,M,C,N,j,G⟩ p;rw[Tn]at K xb cr xc;rw[show QT 1073741824 (Clm.kind ⟨kind,P.map EE,n,d,r,o,l,s,b⟩) _ _=u from L]at K;rw[show QT 1073741824 (Clm.kind ⟨g,y.map EE,Y,O,M,C,N,j,G⟩) _ _=m from xa]at xb;rw[show Wd 1073741824 (Clm.kind ⟨kind,P.map EE,n,d,r,o,l,s,b⟩) _ _ _=v from E]at cr;rw[show Wd 1073741824 (Clm.kind ⟨g,y.map EE,Y,O,M,C,N,j,G⟩) _ _ _=S from e]at xc;have xf:=Sd u.1 u.2 m.1 m.2;have xg:=Sd v.1 v.2 S.1 S.2;clear L xa E e;refine Ab Tryz.func71 λJ=>?_;rw[Tryz.ntmps71];apply Y1;refine Bx ?_;refine Bx ?_;refine Wa<|Y0 ?_;refine CF 0 2 rfl rfl rfl ?_;refine CF 1 3 rfl rfl rfl ?_;refine AWp.cutB 0 (λ_:Unit=>⟨[(2,.d (Fb 34 (YZ kind P n d r o l s b))),(3,.d (Fb 34 (YZ g y Y O M C N j G))),(4,.d (ex (.bool false)))],[.dead,.dead]⟩) (λ_=>Ug (decide (CB P y=0)) kind g n Y d O r M s j=false) ?_ ?_;refine AWp.block<|Y1 ?_;refine Wq AP ?_;refine Wq AO ?_;refine Wq Ch ?_;refine Wm ?_;refine HX (λV=>AP) ?_;refine Ee 14 rfl (λV=>AO) ?_;refine Ee 15 rfl (λV=>Ch) ?_;refine Wq Cu ?_;refine Wa<|Y0 ?_
 .refine EN (ao rfl) (λc=>?_) (λc=>?_)
  .obtain ⟨A, B⟩:kind=1/\g=2:=by simpa using c
   refine Go ?_;refine EN (ao rfl) (λq=>?_) (λq=>?_)
   .exact Zbw
   .exact Zbx
  refine Go ?_;refine HX (λV=>AP) ?_;refine Ee 28 rfl (λV=>AO) ?_;refine Ee 29 rfl (λV=>Ch) ?_;refine Go ?_;refine EN (ao rfl) (λI=>?_) (λI=>?_)
  .obtain ⟨A, B⟩:kind=5/\g=5:=by simpa using I
   refine Go ?_;refine Wh (λV=>AP) ?_;refine Ze 38 rfl (λV=>AO) ?_;refine Wh (λV=>AP) ?_;refine Ze 40 rfl (λV=>AO) ?_;refine Wv2 39 rfl 41 rfl (λV=>Ch) ?_;refine Go ?_;refine EN (ao rfl) (λq=>?_) (λq=>?_)
   .exact Zbw
   .exact Zbx
  refine Go ?_;refine HX (λV=>AP) ?_;refine Ee 49 rfl (λV=>AO) ?_;refine Ee 50 rfl (λV=>Ch) ?_;refine Go ?_;refine EN (ao rfl) (λx=>?_) (λx=>?_)
  .obtain ⟨A, B⟩:kind=6/\g=6:=by simpa using x
   refine Go ?_;refine Wh (λV=>AP) ?_;refine Ze 59 rfl (λV=>AO) ?_;refine Wh (λV=>AP) ?_;refine Ze 61 rfl (λV=>AO) ?_;refine Wv2 60 rfl 62 rfl (λV=>Ch) ?_;refine Go ?_;refine Wh (λV=>AP) ?_;refine Ze 66 rfl (λV=>AO) ?_;refine Wh (λV=>AP) ?_;refine Ze 68 rfl (λV=>AO) ?_;refine Wv2 67 rfl 69 rfl (λV=>Ch) ?_;refine Go ?_;refine EN (ao rfl) (λq=>?_) (λq=>?_)
   .exact Zbw
   .exact Zbx
  refine Go ?_;refine HX (λV=>AP) ?_;refine Ee 77 rfl (λV=>AO) ?_;refine Ee 78 rfl (λV=>Ch) ?_;refine Go ?_;refine EN (ao rfl) (λX=>?_) (λX=>?_)
  .obtain ⟨A, B⟩:kind=8/\g=8:=by simpa using X
   by_cases qq:CB P y=0
   .rw [decide_eq_true qq]at a ⊢
    apply Ao;refine Dy 14 ?_;have w:=xd;refine Cw ?_;refine⟨_,AK rfl rfl (A5V rfl rfl),?_⟩;refine Zfn ?_;refine EN (ao rfl) (λq=>?_) (λq=>?_)
    .exact Zbw
    .exact Zbx
   .rw [decide_eq_false qq]at a ⊢
    apply Ao;refine Dy 14 ?_;refine Zfn ?_;exact Zhy
  refine Go ?_;refine HX (λV=>AP) ?_;refine Ee 100 rfl (λV=>AO) ?_;refine Ee 101 rfl (λV=>Ch) ?_;refine Go ?_;refine EN (ao rfl) (λZ=>?_) (λZ=>?_)
  .obtain ⟨A, B⟩:kind=10/\g=8:=by simpa using Z
   by_cases qq:CB P y=0
   .rw [decide_eq_true qq]at a ⊢
    have t:=xd;refine Go ?_;refine Wg (A5X (i:=0) (ds:=cn3 j) rfl rfl (Aa rfl) (Aa rfl) rfl ZbN ZbN (Nat.zero_lt_succ _)) ?_;refine Go ?_;refine EN (ao rfl) (λq=>?_) (λq=>?_)
    .exact Zbw
    .exact Zbx
   .rw [decide_eq_false qq]at a ⊢
    refine Go ?_;exact Zhy
  refine Go ?_;refine CutS.normal () (by simp only[Ug,c,I,x,X,Z,Bool.false_and,Bool.or_false]) ?_;exact Ad ZcC ZcK
 .rintro-xe
  rw[xe];apply Ao;refine Dy 6 ?_;refine Cw ?_;refine Sf ?_;refine Sf ?_;apply Y0;refine CF 2 5 rfl rfl rfl ?_;refine CF 3 6 rfl rfl rfl ?_;apply Ao;refine Dy 6 ?_;have H:=xb;have U:=xc;refine Cw ?_;refine Sf ?_;refine Sf ?_;apply Y0;refine CF 4 7 rfl rfl rfl ?_;refine CF 5 8 rfl rfl rfl ?_;refine Ao<|Y1 ?_;refine Wq Cp ?_;refine Wq Cp ?_;refine Wq (Bs (xf)) ?_;refine Wm ?_;refine Wh (λV=>Cp) ?_;refine Wh (λV=>Cp) ?_;refine Wv2 128 rfl 129 rfl (λV=>Bs (xg)) ?_;refine Wq Mc ?_;refine Wm ?_;refine Wh (λV=>AP) ?_;refine Ze 133 rfl (λV=>AO) ?_;refine Wh (λV=>AP) ?_;refine Ze 135 rfl (λV=>AO) ?_;refine Wv2 134 rfl 136 rfl (λV=>Ch) ?_;refine Wq Mc ?_;apply Y0
  refine EN (ao rfl) (λq=>?_) (λq=>?_)
  .refine Go ?_
   exact Ak (Ah (ResV.tmp rfl rfl) (Ac (congrArg (λz=>ex (.bool z)) (by rw[show rgP kind u m v S=true from q];simp))))
  .by_cases k:kind=2
   .refine Go ?_;refine Wg (A0E rfl rfl) ?_;refine Go ?_
    exact Zjk
   .refine Go ?_
    exact Zjk
section
variable {kind kind':Int} {P P':List Tm} {n n' d d' r r':Int} {o o':List (Nat->Int)} {l l':List (List RTm)} {s s':List Int} {b b':List (Nat->RQ×RQ)} {x y:Bool}
theorem A0L(A:Abs Tryz.prog 71 [AJ (YZ kind P n d r o l s b),AJ (YZ kind' P' n' d' r' o' l' s' b')] (ex (.bool x)))(B:Abs Tryz.prog 71 [AJ (YZ kind' P' n' d' r' o' l' s' b'),AJ (YZ kind P n d r o l s b)] (ex (.bool y))) :
  Abs Tryz.prog 29 [AJ (YZ kind P n d r o l s b),AJ (YZ kind' P' n' d' r' o' l' s' b')] (ex (.bool (x||y))):=by
 refine Ab Tryz.func29 λC=>?_;rw[Tryz.ntmps29];apply Y1;refine Bx ?_;refine Bx ?_;refine Wa<|Y0 ?_;refine CF 0 2 rfl rfl rfl ?_;refine CF 1 3 rfl rfl rfl ?_;apply Y1;refine Wq Cp ?_;refine Wq Cp ?_;refine Wq (Bs (A)) ?_;refine Wm ?_;refine Wh (λV=>Cp) ?_;refine Wh (λV=>Cp) ?_;refine Wv2 9 rfl 10 rfl (λV=>Bs (B)) ?_;refine Wq Mc ?_;refine Wa<|Y0<|Ci ?_
 exact Yf
end
end
end Go.Proofs.YtcikkglcoeedlaaGreat
