/- Part 21. No condition. -/
import Derived.Test.YtcikkglcoeedlaaGreatDm3
import Derived.Test.YtcikkglcoeedlaaGreatDm17
import Derived.Test.YtcikkglcoeedlaaGreatDm18
import Derived.Test.YtcikkglcoeedlaaGreatDm20
set_option linter.all false
set_option maxRecDepth 100000
namespace Go.Proofs.YtcikkglcoeedlaaGreat
open _root_.Go.Proofs.Tryz
variable{vm:Exit->AS->Prop}{vk ue:List (List D)}{vb:List (Nat×AV)}{vw:List (Nat×Nat)}{uf:List (Nat×Operand)}{R:List AV}{H vA uT:List Ow}{n b T m c vj:Nat}{x y vT:Operand}{P:Program}{d:TypeDesc}{t U:TypeId}{z u:Value}
section
open Go.RowKit
section
variable {P:Program} {s0:An} {n:Nat} {ops:Array Oper} {Q:Exit->AS->Prop} {rest:List Oper} {fr:List (Nat×AV)} {hp hp':List Ow} {ty:TypeId} {ps:String} {af:Array Edge}
theorem A3Z{t T U bytes id m b e:Nat}{xH:Nat->List Ow}(C:AS.arg ⟨fr,hp⟩ x=.own id)(hh:hp[id]? = some (.row T U []))(xb:∀k,k<vk.length->(vk.getD k []).length=U)(O:0<vk.length)
  (M:∀(s:GS) (V:Nat->Value) (a:Act),StI s0 n ⟨fr,hp⟩ a s V->∃(g p c:Nat) (xg:List Value),a.eval y=.slice (some ⟨g,p,none⟩) vk.length c/\xg.length=vk.length*U/\(∀j q,xg[j]? = some q->s.w.cell? ⟨g,p+j,none⟩=some q)/\(∀q∈xg,q.oneCell'=true)/\∀k j,k<vk.length->j<U->∃q,xg[k*U+j]? = some q/\q.oneCell'=true/\(Dd (vk.getD k []) j).rel s q)
  (L:Tab P t (.slice T) m b u) (hT:Tab P T d U bytes z) (xt:z.cells.size=U) (S:Nat.blt e n=true) (xo:vk.length*bytes<=140737488355328) (xq:vk.length<=4611686018427387904) (hf:IZ id (slD T U []) fr=some vb) (xl:PlainHp id hp) (N:∀g,Gk hp id (.obj (Lb [⟨g,T,vk.flatten⟩]))=some (xH g))
  (h:∀g c,vk.length<=c->c<=9223372036854775807->AWl P s0 n ops Q rest ⟨(e,.d (sX g vk.length c))::vb,xH g⟩):AWl P s0 n ops Q (⟨some e,.call { callee:=.builtin .append,args:=#[x,y],argTypes:=#[t,t] },ty,ps,af,none⟩::rest) ⟨fr,hp⟩:=by
 refine AWl.step rfl λs V a xa K hK=>?_;have xv:=xa.arg x;rw[C]at xv;obtain⟨xh,W⟩:=xv;obtain⟨xs,A,F,G,R,h6⟩:=xa.hp id _ hh;have xx:(slD T U []).rel s (V id):=DV (av:=.own id) xa.hp ⟨xh,rfl⟩ (by simp[HO,hh]);obtain⟨g0,p,c0,xg,e2,n1,n2,n3,n4⟩:=M s V a xa;have xn:xs=[]:=YaE (by have:=A.1;simpa using this);subst xn;obtain⟨v',H,Y,q1,q2,q3,q4,q5,q6,q7⟩:=PI (P:=P) (ty:=ty) xa.le xa.ok L.und hT xt F G A (λb E=>xa.own id _ b hh E) R g0 p vk.length c0 xg n1 O n2 n3 (by simpa using xo) (by simpa using xq);simp only[Ybg,YaH,Ycy]at q4 q5
 have xe:(execOp a.eval ⟨some e,.call { callee:=.builtin .append,args:=#[x,y],argTypes:=#[t,t] },ty,ps,af,none⟩).run P s.w=.ok (.value v') H.w:=by
  simp only[execOp,resolve,invoke,builtin,Sem.run_bind,Sem.run_pure,Result.andThen_ok,Yco,Ybb,Ycb,W,e2,Y]
 unfold Oper.wp;rw[xe];obtain⟨g,cap,xp,rfl,xI,hg,xK,xw,xy,xM⟩:=q4.2.resolve_left (λ⟨_,o⟩=>by omega)
 have xG:∀k,¬s.S g k:=λk B=>by
  rcases q7 g rfl with E | E
  .have:=(R g E k).1 B
   simp at this
  .have:=xa.ok.lt _ _ B
   omega
 let s2:GS:=⟨λb k=>H.S b k/\b≠g,H.tag,H.w⟩;have xk:GS.Chg s s2:=⟨q3.size,λb k B=>⟨q3.up b k B,λe=>xG k (e▸B)⟩,q3.cell⟩
 have xB:s2.Ok:=⟨λb k B=>q2.lt b k B.1,λb k xF=>⟨q2.safe b k xF,λe=>by
  subst e;obtain⟨Z,fz,E⟩:=xF;have E:H.w.heap[b]? = _:=E;rw[hg]at E;exact F (Obj.cells.inj (Yag E)).2.1⟩⟩
 have xC:GS.LeX s0.mine s0.g s2:=⟨q1.os,q1.tape,q1.output,q1.block,xa.le.chg.trans xk,λb k E hm B=>q1.old b k E hm B.1,q1.tag,λ_=>xB⟩
 have xm:=xa.upd (s':=s2) (o':=.obj (Lb [⟨g,T,vk.flatten⟩])) (ρ':=λi=>if i=id then .slice (some ⟨g,0,none⟩) vk.length cap else V i) (f:=down id (slD T U [])) xC xB xk hh
  (λb E xz=>⟨(q6 b E xz).1,λk=>⟨λB=>((q6 b E xz).2 k).1 B.1,λB=>⟨((q6 b E xz).2 k).2 B,λe=>xG k (e▸B)⟩⟩⟩) (λj X=>Yaj X)
  (by
   refine⟨λw hw=>?_,by simp⟩;rw[Yax.1 hw]
   have xL:∀(l:List (List D)),(∀k,k<l.length->(l.getD k []).length=U)->l.flatten.length=l.length*U/\∀k j,k<l.length->j<U->Dd l.flatten (k*U+j)=Dd (l.getD k []) j:=by
    intro l
    induction l with
    |nil=>intro _;exact⟨by simp,λk j B=>by simp at B⟩
    |cons r l ih=>
     intro I;have xE:r.length=U:=I 0 ZbR;obtain⟨i1,i2⟩:=ih λk B=>I (k+1) ZcZ;refine⟨by simp only[Ydk,Yac,Yat];rw[i1,xE,YcP];omega,λk j B X=>?_⟩
     cases k with
     |zero=>simp[Dd,YaQ,xE,X]
     |succ k=>
      have:=i2 k j ZcZ X;rw[YcP];simp only[Ydk,Dd,Ydb]at this ⊢;rw[<-this,Yaa,Yaa,Yak ZbC,xE];congr 2;omega
   obtain⟨f1,f2⟩:=xL vk xb;have xi:xp.size=cap*U:=xy;refine⟨F,λk B=>B.2 rfl,xp,hg,by show vk.flatten.length<=_;rw[f1,xi];exact YaC _ xK,λk B=>?_⟩;have B:k<vk.length*U:=by rw[<-f1];exact B
   have xr:=YcT k U;have xA:k/U<vk.length:=Ybu (by rw[YaM];exact B);have xJ:k%U<U:=YaR _ G;obtain⟨q,r1,xD,r3⟩:=n4 (k/U) (k%U) xA xJ;have e3:k/U*U+k%U=k:=by rw[YaM];exact xr
   rw[e3]at r1;refine⟨q,?_,xD,?_⟩
   .have:(xp.toList.take (vk.length*U))[k]? = some q:=by rw [xM];exact r1
    rw[YaK,Yao B]at this;exact ZjY
   .have:=f2 (k/U) (k%U) xA xJ
    rw[e3]at this;show(Dd vk.flatten k).rel s2 q;rw[this];exact(Dd _ _).st r3 xk)
  (λb E=>by
   obtain⟨w,hw,rfl⟩:=E;rw[Yax.1 hw]
   exact q7 g rfl) λav v xf=>by
    cases av with
    |d x=>exact x.st xf xk
    |ptr i off=>
     obtain⟨p1,bb,p2,p3⟩:=xf;refine⟨p1,bb,?_,p3⟩;show(if i=id then _ else V i)=_;by_cases e:i=id
     .exfalso
      subst e;rcases A.2 with⟨w1,_⟩ | ⟨g,cap,xp,w1,_⟩<;>rw[w1]at p2<;>cases p2
     .rw [Yaj e];exact p2
    |own j=>
     obtain⟨p1,p2⟩:=xf;show AVr hp.length _ s2 (bif Nat.beq j id then .d (slD T U [])else .own j) v
     cases E:Nat.beq j id with
     |true=>
      have e:j=id:=Yan E;subst e;rw[p2];exact(slD T U []).st xx xk
     |false=>
      have e:j≠id:=YaJ E;exact⟨p1,p2.trans (Yaj e).symm⟩
    |fn f xc=>
     obtain⟨p1,p2⟩:=xf;show AVr hp.length _ s2 (bif xc.contains id then .d Cs else .fn f xc) v
     cases E:xc.contains id with
     |true=>trivial
     |false=>
      have o:id∉xc:=λh=>by rw[Ybv.2 h]at E;cases E
      exact⟨p1,by rw[p2,YaS λi J=>(Yaj λe=>o ZeN:(if i=id then _ else V i)=V i)]⟩
 have xj:=xm.put (GS.Le.refl s2) (dst:=some e) (λd xd=>by cases xd;simpa[Ybq]using S) (v:=.slice (some ⟨g,0,none⟩) vk.length cap) (r:=.d (sX g vk.length cap)) rfl;have xu:=h g cap xK xw;rw[Ev (N g),Of hf]at xu;simp only[Ff xl.ok]at xj;exact hK _ _ _ xu ⟨s2,_,rfl,xj⟩
theorem A7x{t T l sz bytes id m b e:Nat}{r2:List (List D)}{v:Nat->List Ow}(C:AS.arg ⟨fr,hp⟩ x=.own id)(K:hp[id]? = some (.row T sz []))(N:∀k,k<r2.length->(r2.getD k []).length=sz)(B:0<r2.length)(M:HO hp (AS.arg ⟨fr,hp⟩ y)=some (slD l sz r2))
  (L:Tab P t (.slice T) m b u) (I:Tab P T d sz bytes z) (j:z.cells.size=sz) (E:Nat.blt e n=true) (f:r2.length*bytes<=140737488355328) (i:r2.length<=4611686018427387904) (F:IZ id (slD T sz []) fr=some vb) (Z:PlainHp id hp) (q:∀g,Gk hp id (.obj (Lb [⟨g,T,r2.flatten⟩]))=some (v g))
  (h:∀g c,r2.length<=c->c<=9223372036854775807->AWl P s0 n ops Q rest ⟨(e,.d (sX g r2.length c))::vb,v g⟩):AWl P s0 n ops Q (⟨some e,.call { callee:=.builtin .append,args:=#[x,y],argTypes:=#[t,t] },ty,ps,af,none⟩::rest) ⟨fr,hp⟩:=
 A3Z C K N B (λs V a G=>by
  obtain⟨A,c,o,J,O,S⟩:=DV G.hp (G.arg y) M;obtain⟨g,p,rfl,X⟩:=S B;obtain⟨w,W,Y,R,r⟩:=NX X;exact⟨g,p,c,w,o,W,Y,R,r⟩) L I j E f i F Z q h
end
section
variable {P:Program} {hp:List Ow} {arg:Operand->AV} {dd:Option Tmp} {ty:TypeId} {ps:String} {af:Array Edge} {gd:Option (Nat×Bool)}
theorem ML{R:AV->Prop}(L:Tab P t (.slice U) b T z)(B:Tab P U d m c u)(o:Nat.blt 0 n=true)(g:Nat.blt 0 m=true)(C:u.cells.size=m)(y:Nat.ble (n*m) 16777216=true)(q:Ih u.cells.toList=true)(h:PC hp arg (λr=>∃S,SK (λi=>some (i*m,m)) (List.replicate (n*m) Cs) r=some S/\R (.d (flD U m (FM m n S)))) [] uf):∃r,Quiet P hp ⟨dd,.buildSlice t n uf.toArray,ty,ps,af,gd⟩ arg r/\R r:=by
 obtain⟨r,A,S,K,Q⟩:=Mf h;exact⟨_,Ui rfl L B (by simpa[Ybq]using o) ZeL C (YbE y) q A (LK K),Q⟩
theorem MF{e n b h H T l:Nat}(C:HO hp (arg x)=some (slD T l vk))(L:Tab P t (.slice e) n b z)(q:Tab P e d h H u)(v:h=l)(M:arg y=.d (eN vj))(p:arg vT=.d (eN vj))(X:vj<=vk.length):Quiet P hp ⟨dd,.slice t x none (some y) (some vT),ty,ps,af,gd⟩ arg (.d (flD T l (vk.take vj))):=Xh rfl C L q v M p X
theorem Jz{t T E l bytes m b:Nat}(C:arg x=.d (flD T l vk))(M:HO hp (arg y)=some (slD E l ue))(L:Tab P t (.slice T) m b u)(e:Tab P T d l bytes z)(B:z.cells.size=l)(q:(vk.length+ue.length)*bytes<=140737488355328)(A:vk.length+ue.length<=4611686018427387904):Quiet P hp ⟨dd,.call { callee:=.builtin .append,args:=#[x,y],argTypes:=#[t,t] },ty,ps,af,gd⟩ arg (.d (slD T l (vk++ue))):=A1A rfl C M L e B q A
end
theorem Ng{s0:An}{e e2:Nat}{L J i:List Oper}(v:P.follows .mixedOrders=true)(s:AddE e L J)(E:SG e L J=true)(K:AddE e2 J i)(r:SG e2 J i=true):DrawOk P s0 n b L.toArray i vm (OnlyN vm):=⟨λa w h=>by
 have G:∀j,(Array.replicate L.toArray.size false).getD j false=false:=λj=>Zai
 have A:i.toArray.size=L.toArray.size:=by simp[s.length,K.length]
 rw[A]at h;have F:∀c a w,¬GR s0 n (OnlyN vm) (.panic c) a w:=λc a w ⟨C,h,_⟩=>Zjz
 have I:¬LetsOut (GR s0 n (OnlyN vm)):=λ⟨a,w,C,h,_⟩=>Zjz
 have B:=Li K r F I _ _ _ _ (by simp[s.length]) (λj o _ I=>by rw[G]at I;cases I) h;have q:=Li s E F I _ _ _ _ ZbR (λj o _ I=>by rw[G]at I;cases I) B
 exact wp_mono (wp_region_any v q) λex Y N ⟨C,h,A⟩=>by
  obtain⟨rfl,h⟩:=h;exact⟨C,h,A⟩⟩
theorem A4X(P:List Tm)(i:Nat)(J:i<8):(OY P).testBit i=true↔∃t∈P,0<t.m i:=by
 have key:∀(P:List Tm) (s:Nat),(P.foldl (λs t=>s ||| suppTo t.m 8) s).testBit i=true↔s.testBit i=true\/∃t∈P,0<t.m i:=by
  intro P
  induction P with
  |nil=>intro s;simp
  |cons t P u=>
   intro s;rw[YdB,u,YeP,RM t.m 8 i J];simp only[YaT,YaZ,YaL,exists_eq_or_imp,or_assoc]
 rw[OY,key];simp
theorem A5b{s t:Tm}(h:Iv s.m t.m≠0):Ip s t=Iv s.m t.m:=by
 rw[<-Np]at h ⊢;exact QX λe=>h (Ri.2 e)
theorem A3c{s t:Tm}(h:Iv s.m t.m=0):Ip s t=IR s.c t.c:=by
 rw[<-Np]at h;exact QY (Ri.1 h)
theorem Vm(P Q:List Tm)(A:PSz P 1000000000)(E:PSz Q 1000000000)(g:P.length<=1000000)(v:Q.length<=1000000):Abs prog 128 [BS P,BS Q] (eI (Db P Q)):=by
 refine Ab func128 λy=>?_;rw[ntmps128];refine Go ?_;refine AC (λw q=>∃k,k<=P.length/\k<=Q.length/\Db P Q=Db (P.drop k) (Q.drop k)/\w=P.length-k/\q=⟨[(0,.d (BS P)),(1,.d (BS Q)),(5,.d (eN k))],[]⟩) ?le ⟨0,by omega,by omega,rfl,rfl,rfl⟩ ?round
 case le=>exact Ac Zdb Zcb
 case round=>
  rintro m _ ⟨k,B,J,heq,rfl,rfl⟩;by_cases O:k<P.length
  .by_cases G:k<Q.length
   .have a:=A _ (DC O)
    have L:=E _ (DC G);have d:=Pi O G;have K:=GO (BA P k).m (BA Q k).m;have C:=A48 (BA P k).c (BA Q k).c a L;by_cases I:Iv (BA P k).m (BA Q k).m=0
    .have M:Iv (P.getD k default).m (Q.getD k default).m=0:=I
     have e:=A3c I;by_cases n:IR (BA P k).c (BA Q k).c=0
     .rw [Yao (e.trans n)]at d
      refine Go ?_;refine Dy 12 ?_;refine ZfU ?_;refine Dy 12 ?_;refine ZfU ?_;refine Ai (P.length-(k+1)) ZbC ⟨k+1,by omega,by omega,by rw[heq,d],rfl,rfl⟩ ?_;exact Ac Zdb Zcb
     .rw [Yaj (by rw [e]; exact n)] at d
      refine Go ?_;refine Dy 12 ?_;refine ZfU ?_;refine Dy 12 ?_;refine ZfU ?_;refine Dy 11 ?_;exact ZiA
    .have e:=A5b I
     rw[Yaj (by rw[e];exact I)]at d;refine Go ?_;refine Dy 12 ?_;refine ZfU ?_;refine Dy 11 ?_;exact ZiA
   .have e:Db P Q=1:=by
     exact Zkr
    refine Go ?_;exact AA (Am (ResV.tmp rfl rfl) (Ae Zez))
  .have F:P.drop k=[]:=YaN ZbC
   by_cases G:k<Q.length
   .have e:Db P Q=-1:=by
     rw[heq,F,Hf G,Db]
    refine Go ?_;exact AA (Am (ResV.tmp rfl rfl) (Ae Zez))
   .have e:Db P Q=0:=by
     exact Zks
    refine Go ?_;exact AA (Am (ResV.tmp rfl rfl) (Ae Zez))
def YE(d Z K:List Ow)(j L:Bool):List Ow:=bif L then K else bif j then Z else d
structure DStp2(P:Program)(frB:List (Nat×AV))(m0 m1 m2:List Ow)(ks:List AV)(es:List (Nat×Nat))(o:Oper)(r:AV):Prop where
 a:Quiet P m0 o (DN ⟨frB,m0⟩ (ks.map HR.av) es) r
 b:Quiet P m1 o (DN ⟨frB,m1⟩ (ks.map HR.av) es) r
 c:Quiet P m2 o (DN ⟨frB,m2⟩ (ks.map HR.av) es) r
theorem DStp2.at{o:Oper}{r:AV}(h:DStp2 P vb H vA uT R vw o r):∀j L,Quiet P (YE H vA uT j L) o (DN ⟨vb,YE H vA uT j L⟩ (R.map HR.av) vw) r
 |_,true=>h.c
 |true,false=>h.b
 |false,false=>h.a
def DTn(P:Program)(s0:An)(n:Nat)(w:List (Nat×AV))(W M:List Ow)(I:List AV)(c:Nat)(z:List (Nat×Nat))(o:Oper)(r:AV):Prop:=∀F:List (Nat×AV),(∀p∈F,(∃i,i≠c/\I[i]? = some p.2)\/p∈w)->∀(s:GS) (V:Nat->Value) (a:Act),StI s0 n ⟨F,W⟩ a s V->(∀y∈o.op.operands,AVr W.length V s (DN ⟨w,W⟩ (I.map HR.av) z y) (a.eval y))->RegG.OpStep P o a.eval s λv j=>∃R,StI s0 n ⟨F,M⟩ a j R/\AVr W.length R j r v
theorem Vt{s0:An}{id:Nat}{Y f:Ow}{c:Nat}{o:Oper}{r:AV}(h:DTurn P s0 n vb H id Y f R [] c vw o r)(C:EY H id Y f false=H)(q:EY H id Y f true=vA):DTn P s0 n vb H vA R c vw o r:=λF hF s V a B t=>by
 unfold DTurn at h;rw[C,q]at h;exact h F (λp E=>(hF p E).imp (λ⟨i,q,A⟩=>⟨i,q,by simp,A⟩) λh=>h) s V a B t
def DSteps2(P:Program)(s0:An)(n:Nat)(w:List (Nat×AV))(d Z q:List Ow)(I:List AV)(K F:Nat):Nat->List Oper->List (List (Nat×Nat))->List AV->Prop
 |i,o::L,x::S,r::R=>(bif Nat.beq i K then DTn P s0 n w d Z I K x o r else bif Nat.beq i F then DTn P s0 n w Z q I F x o r else DStp2 P w d Z q I x o r)/\DSteps2 P s0 n w d Z q I K F (i+1) L S R
 |_,[],[],[]=>True
 |_,_,_,_=>False
section
variable {P:Program} {s0:An} {n:Nat} {frB:List (Nat×AV)} {m0 m1 m2:List Ow} {ks:List AV} {c1 c2:Nat}
theorem DSteps2.at:∀{L:List Oper} {S:List (List (Nat×Nat))} {R:List AV} {j:Nat},DSteps2 P s0 n frB m0 m1 m2 ks c1 c2 j L S R->∀(i:Nat) o x r,L[i]? = some o->S[i]? = some x->R[i]? = some r->(bif Nat.beq (j+i) c1 then DTn P s0 n frB m0 m1 ks c1 x o r else bif Nat.beq (j+i) c2 then DTn P s0 n frB m1 m2 ks c2 x o r else DStp2 P frB m0 m1 m2 ks x o r)
 |[],_,_,_,_,i,o,x,r,s,_,_=>by simp at s
 |_::_,[],_,_,_,i,o,x,r,_,C,_=>by simp at C
 |_::_,_::_,[],_,_,i,o,x,r,_,_,Y=>by simp at Y
 |B::L,N::S,E::R,j,⟨q,A⟩,0,o,x,r,s,C,Y=>by
  simp at s C Y;subst s;subst C;subst Y;exact q
 |B::L,N::S,E::R,j,⟨q,A⟩,i+1,o,x,r,s,C,Y=>by
  have:=DSteps2.at A i o x r ZdQ ZeA (by simpa using Y);exact Zkp
variable {i:Nat} {o:Oper} {L:List Oper} {x:List (Nat×Nat)} {S:List (List (Nat×Nat))} {r:AV} {R:List AV}
theorem DSteps2.q(g:Nat.beq i c1=false)(b:Nat.beq i c2=false)(t:Quiet P m0 o (DN ⟨frB,m0⟩ (ks.map HR.av) x) r)(E:Quiet P m1 o (DN ⟨frB,m1⟩ (ks.map HR.av) x) r)(G:Quiet P m2 o (DN ⟨frB,m2⟩ (ks.map HR.av) x) r)(a:DSteps2 P s0 n frB m0 m1 m2 ks c1 c2 (i+1) L S R):DSteps2 P s0 n frB m0 m1 m2 ks c1 c2 i (o::L) (x::S) (r::R):=⟨by rw[g,b];exact⟨t,E,G⟩,a⟩
theorem DSteps2.k(g:Nat.beq i c1=true)(h:DTn P s0 n frB m0 m1 ks c1 x o r)(a:DSteps2 P s0 n frB m0 m1 m2 ks c1 c2 (i+1) L S R):DSteps2 P s0 n frB m0 m1 m2 ks c1 c2 i (o::L) (x::S) (r::R):=⟨by rw[g];exact h,a⟩
theorem DSteps2.l(g:Nat.beq i c1=false)(b:Nat.beq i c2=true)(h:DTn P s0 n frB m1 m2 ks c2 x o r)(a:DSteps2 P s0 n frB m0 m1 m2 ks c1 c2 (i+1) L S R):DSteps2 P s0 n frB m0 m1 m2 ks c1 c2 i (o::L) (x::S) (r::R):=⟨by rw[g,b];exact h,a⟩
theorem DSteps2.nil:DSteps2 P s0 n frB m0 m1 m2 ks c1 c2 i [] [] []:=trivial
end
theorem A23{s0:An}{L:List Oper}(g R m:Nat)(xc xs:List Nat)(d:List AV)(z F:List (Nat×AV))(m1 m2:List Ow)(v:P.follows .mixedOrders=true)(xf:FrIn vb z)(xa:(Nat.blt g m&&Nat.blt R m && !Nat.beq g R)=true)(y:Nat.blt m L.length=true)(xr:m1.length=H.length)(xj:m2.length=H.length)(xi:((List.range (L.length-m)).all λt=>(match L[m+t]? with | some o=>Bw o | none=>[]).all λk=>decide (k<m+t))=true)(xl:((List.range (L.length-m-1)).all λt=>(match L[m+t+1]? with | some o=>Bw o | none=>[]).contains (m+t))=true)(xg:(MZ L [m] xc&&(List.range m).all λj=>xc.contains j)=true)(xk:(MZ L [R] xs&&xs.contains g)=true)
  (steps:DSteps2 P s0 n z H m1 m2 d g R 0 (L.take m) (Ho (L.take m)) d) (Z:Zh (L.take m) (Ho (L.take m)) d z n=true) (hF:FrIn (QQ (L.take m) d z) F) (fin:AWl P s0 n L.toArray vm (L.drop m) ⟨F,m2⟩):AWp P s0 n (.region b L.toArray true) vm ⟨vb,H⟩:=by
 simp only[Yam,Bool.not_eq_true']at xa xk;obtain⟨⟨xu,xv⟩,xq⟩:=xa;have xw:g≠R:=λe=>by rw[e,YcA]at xq;cases xq
 have xh:∀b1 b2,(YE H m1 m2 b1 b2).length=H.length:=λb1 b2=>by cases b2<;>cases b1<;>first | rfl | exact xr | exact xj
 have l:∀f,Hm f [] 0 d=d:=λf=>A29 λq M=>by cases M
 refine Ks (fun _ => True) m xc (fun f => YE H m1 m2 (f g) (f R)) [] d z F (Fc v) xf y trivial rfl (fun f => xh _ _) (fun _ => xi) xl xg (fun i o x r Q E Y => ?_) Z (by rw [l]; exact hF) (fun _ => by
  show AWl P s0 n L.toArray vm (L.drop m) ⟨F,YE H m1 m2 (Nat.blt g m) (Nat.blt R m)⟩;rw[xu,xv];exact fin)
 have I:=steps.at i o x r Q E Y;rw[YaH]at I
 have J:i<m:=by
  have:=(Yae.1 Q).1;rw[YaO]at this;omega
 have T:L[i]? = some o:=by
  rwa [YaK,Yao J]at Q
 have xo:∀c,i≠c->Nat.beq i c=false:=λc h=>Ydi.2 λe=>h (Yan e)
 have xt:∀(mA mB:List Ow),mA.length=H.length->(∀f,Can L f i o->YE H m1 m2 (f g) (f R)=mA/\YE H m1 m2 (Fz f i g) (Fz f i R)=mB)->DTn P s0 n z mA mB d i x o r->XTurn P s0 n L z (λf=>YE H m1 m2 (f g) (f R)) [] d i x o r:=λmA mB hA U I f G F' xn s V a u O=>by
  obtain⟨W,N⟩:=U f G
  dsimp only at u O ⊢
  rw[W]at u O ⊢;rw[l]at O;rw[N];exact I F' (λp X=>(xn p X).imp (λ⟨j,A,B,K⟩=>⟨j,(λe=>by rw[e,G.no]at A;cases A),K⟩) λh=>h) s V a u O
 by_cases xe:i=g
 .subst xe
  rw[YcA]at I;refine(xt H m1 rfl (λf G=>?_) I).step λ_ _ _=>trivial
  have xd:f R=false:=by
   cases w:f R with
   |false=>rfl
   |true=>
    have:=Mo xk.1 G.cl (λk C S T e' xb=>by
     obtain rfl:k=R:=by simpa using C
     exact G.cl _ S T w e' xb) i (by simpa using xk.2)
    exact Zic
  rw[JO,Kv xw,G.no,xd];exact ZjF
 by_cases xp:i=R
 .subst xp
  rw[xo g xe,YcA]at I;refine(xt m1 m2 xr (λf G=>?_) I).step λ_ _ _=>trivial
  have xm:f g=true:=Mo xk.1 G.cl (λk C S xx e' xb=>by
   obtain rfl:k=i:=by simpa using C
   obtain rfl:S=o:=Yag (xx.symm.trans T);exact G.ed e' xb) g (by simpa using xk.2)
  rw[JO,xm,G.no];exact⟨rfl,by cases Fz f i g<;>rfl⟩
 rw[xo g xe,xo R xp]at I;have I:DStp2 P z H m1 m2 d x o r:=I
 exact XStep.q (fun _ _ h => h) (fun f => by rw [Kv xe, Kv xp]) fun f _ => by
  rw[l];exact I.at _ _
end
