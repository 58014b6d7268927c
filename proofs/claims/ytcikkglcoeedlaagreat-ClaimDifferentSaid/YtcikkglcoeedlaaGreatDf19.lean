/- Part 19. No condition. -/
import Derived.Test.YtcikkglcoeedlaaGreatDf17
import Derived.Test.YtcikkglcoeedlaaGreatDf18
set_option linter.unusedSimpArgs false
set_option linter.unusedVariables false
set_option maxRecDepth 100000
namespace Go.Proofs.YtcikkglcoeedlaaGreat
open _root_.Go.Proofs.Tryz
open Go.RowKit
variable{vf:AS}{f:AV}{vy:AV->List Ow->Prop}{vj:Act}{o um:Bool}{vp uc:Code}{r vx up:D}{vl:Exit->AS->Prop}{vO:Func}{ve:FuncId}{s vr:GS}{a j:Int}{i:IntKind}{vm:List (List D)}{vc uz:List (Nat×AV)}{R uu:List AV}{v:List D}{l h:List Nat}{H vA uQ:List Ow}{vb uf:List Tm}{ug:List Value}{n b T m:Nat}{vh vC:Nat->Int}{vF:Nat->Nat}{vi ua:Nat->Value}{ui:Op}{x y vS:Operand}{vz:Operand->AV}{vt uE:Ow}{P:Program}{vD uS:Rat}{e:Type}{t U:TypeId}{z u:Value}{ur:e->Prop}
theorem Zf(c:Rat)(m:Nat->Int)(P:List Tm)(F:c=0):Abs prog 95 [AQ (DB c),AQ (CE m),BP P] (Gb [BP [],ex (.int .i64 0)]):=by
 have Z:=DI.2 F;refine Ab func95 λw=>?_;rw[ntmps95];have H:=Gm c;refine Go ?_;exact AA (Rets.of2 (ResV.tmp rfl rfl) (ResV.tmp rfl rfl) (Co (A44) (D.le.refl _)))
theorem MU(c:Rat)(m:Nat->Int)(P:List Tm)(N M:Nat)(F:c≠0)(E:RSz c N)(x:In8 m 0 65535)(A:PSz P M)(I:PIn P 0 65535)(J:∀t∈P,In8 (CT m t.m) 0 65535)(h:P.length<=100000)(G:N+M<=4398046511103):Abs prog 95 [AQ (DB c),AQ (CE m),BP P] (Gb [BP (TX c m P),ex (.int .i64 0)]):=by
 have Z:c.num.sign≠0:=λe=>F (DI.1 e);refine Ab func95 λw=>?_;rw[ntmps95];have C:=Gm c;refine Go ?_;refine AF (λv q=>∃k,k<=P.length/\v=P.length-k/\q=⟨[(2,.d (BP P)),(3,.ptr 0 0),(4,.ptr 1 0),(8,.own 2),(9,.d (ex (.int .i64 (k:Nat))))],[.var 111 ((DB c).map .d),.var 112 ((CE m).map .d),.row 114 12 ((TX c m (P.take k)).map QA)]⟩) ?le ⟨0,by omega,rfl,rfl⟩ ?round
 case le=>exact Ac Zev (by exact Yv<|Yv<|Yr<|HpLe.nil)
 case round=>
  rintro v _ ⟨k,B,rfl,rfl⟩;by_cases O:k<P.length
  .have L:=Dz O
   have p:=Rn O;refine Go ?_;refine Re (Xc (e:=9) ZbK (K4 (K4 (AddE.keep (AddE.keep (AddE.keep (AddE.add (AddE.keep AddE.nil))))))) ZbK) [[],[],[],[(24,1),(25,2)],[(26,3)],[(27,4)],[(23,0),(28,5)],[(29,6)],[(22,7)],[(22,7)],[]] [[],[],[],[1,2],[1,2,3],[1,2,3,4],[0,1,2,3,4,5],[0,1,2,3,4,5,6],[0,1,2,3,4,5,6,7],[0,1,2,3,4,5,6,7],[]] rfl ZbK ZbK ZbK ?_;have r:=A3H m (Bv P k).m x (I _ L) (J _ L);refine ZfU ?_;refine Dy 11 ?_;have d:=A3b c (Bv P k).c N M E (A _ L) G;refine Dw ?_
   (refine Ap ?_);refine ZfP ?_;exact Ac Zev Zdq
  .exact ZaO
def XA(c:Rat)(P:List Tm):List Tm:=if c=0 then[]else TX c (λ_=>0) P
theorem A0S(c:Rat)(P:List Tm)(N M:Nat)(A:RSz c N)(q:PSz P M)(I:PIn P 0 65535)(h:P.length<=100000)(E:N+M<=4398046511103):Abs prog 224 [AQ (DB c),BP P] (BP (XA c P)):=by
 by_cases F:c=0
 .refine Ab func224 λw=>?_
  rw[ntmps224];have O:=Zf c (λ_=>0) P F;refine Go ?_;exact AA (Am (ResV.tmp rfl rfl) (Tk (by rw[XA,Yan F])))
 .refine Ab func224 λw=>?_
  rw[ntmps224];have B:=MU c (λ_=>0) P N M F A In8.zero q I (λt L=>by rw[Hk];exact I t L) h E;refine Go ?_;exact AA (Am (ResV.tmp rfl rfl) (Tk (by rw[XA,Yai F])))
theorem Vh{m:Nat->Int}(F:RSz vD n)(M:PSz vb b):PSz (TX vD m vb) (n+b):=λt L=>by
 obtain⟨s,Z,rfl⟩:=YaA.1 L;exact F.mul (M s Z)
theorem Jw{x:Int}(d:-1000<=x)(q:x<=1000):RSz ((x:Int):Rat) 1:=by
 refine⟨?_,?_⟩
 .show (Aw (x:Int).natAbs).length<=1
  exact JP Zet
 .show (Aw 1).length<=1
  exact JP Zet
theorem Canon.nil:Canon []:=⟨List.Pairwise.nil,λt h=>by cases h⟩
theorem Oo{t:Tm}(h:t.c≠0):Canon [t]:=⟨List.pairwise_singleton _ _,λu S=>by rw[Yaz.1 S];exact h⟩
theorem NA{N M:Nat}:∀{P Q:List Tm},PSz P N->PSz Q M->PSz (Jg P Q) (N+M+1)
 |[],Q,_,h=>by simp only[Jg];exact h.mono ZbG
 |s::P,[],h,_=>by simp only[Jg];exact h.mono ZbG
 |s::P,t::Q,B,i=>by
  have U:PSz P N:=λu S=>B u (by simp[S]);have C:PSz Q M:=λu S=>i u (by simp[S])
  have n:∀{x:Tm} {L:List Tm},RSz x.c (N+M+1)->PSz L (N+M+1)->PSz (x::L) (N+M+1):=λq A u S=>by
   rcases YaM.1 S with rfl | S
   .exact q
   .exact A u S
  rw[Jg];split
  .exact n ((B s ZbV).mono ZbG) (NA U i)
  .split
   .exact n ((i t ZbV).mono ZbG) (NA B C)
   .split
    .exact NA U C
    .exact n ((B s ZbV).add (i t ZbV)) (NA U C)
termination_by P Q=>P.length+Q.length
theorem A7y(M:PIn vb a j)(i:PIn uf a j):PIn (Jg vb uf) a j:=λu S=>by
 rcases Ig vb uf u S with⟨s,Z,e⟩ | ⟨s,Z,e⟩
 .rw [<-e];exact M s Z
 .rw [<-e];exact i s Z
structure PB(P:List Tm)(n N:Nat)(d:Int):Prop where
 can:Canon P
 len:P.length<=n
 sz:PSz P N
 ex:PIn P 0 d
theorem PB.mono{d g:Int}(h:PB vb n b d)(q:n<=T)(A:b<=m)(K:d<=g):PB vb T m g:=⟨h.can,Yat h.len q,h.sz.mono A,h.ex.mono (YbM _) K⟩
theorem PB.nil{n N:Nat}{d:Int}:PB [] n N d:=⟨Canon.nil,Yaw _,λt h=>ZdE,λt h=>ZdE⟩
theorem PB.add{P Q:List Tm}{n N g q:Nat}(h:PB P n N a)(k:PB Q g q j):PB (Jg P Q) (n+g) (N+q+1) (max a j):=
 ⟨JN h.can k.can,by have:=Kl P Q;have:=h.len;have:=k.len;omega,NA h.sz k.sz,A7y (h.ex.mono (YbM _) ZbG) (k.ex.mono (YbM _) ZbG)⟩
theorem A7P{f:Tm->Tm}(h:Dec vb)(p:∀s∈vb,∀t∈vb,0<lx s.m t.m->0<lx (f s).m (f t).m):Dec (vb.map f):=by
 refine List.pairwise_map.2 (List.Pairwise.imp_of_mem (λ{a b} l E q=>p a l b E q) h)
theorem A0b(l:vD≠0)(E:uS≠0):vD*uS≠0:=λe=>by
 rcases Rat.mul_eq_zero.1 e with h | h
 .exact l h
 .exact E h
theorem A2J(F:vD≠0)(h:Canon vb):Canon (TX vD vh vb):=⟨A7P h.1 λs _ t _ h=>by
 show 0<lx (CT vh s.m) (CT vh t.m);rwa [UN vh,UN vh,A9v],λt L=>by
 obtain⟨s,Z,rfl⟩:=YaA.1 L;exact A0b F (h.2 s Z)⟩
theorem A8a(l:In8 vh 0 a)(E:In8 vC 0 j):In8 (CT vh vC) 0 (a+j):=λi J=>by
 have:=l i J;have:=E i J;simp only[CT];omega
theorem A4D{t:Tm}{d d0:Int}(h:PB vb n b d)(F:t.c≠0)(Z:RSz t.c T)(x:In8 t.m 0 d0):PB (TX t.c t.m vb) n (T+b) (d0+d):=
 ⟨A2J F h.can, by rw [ZX]; exact h.len, Vh Z h.sz, fun u S => by
  obtain⟨s,Z,rfl⟩:=YaA.1 S;exact A8a x (h.ex s Z)⟩
theorem A41{t:Tm}(h:t.c≠0)(Z:RSz t.c n)(x:In8 t.m 0 a):PB [t] 1 n a:=⟨Oo h,by simp,λu S=>by rw[Yaz.1 S];exact Z,λu S=>by rw[Yaz.1 S];exact x⟩
theorem Abs.le{f:FuncId}{r r':D}(h:Abs P f v r)(V:D.le r r'):Abs P f v r':=
 ⟨h.1,λs J q A K=>(h.2 s J q A K).mono λe M ⟨B,a,j,c,I,C⟩=>⟨B,a,j,c,I,V _ _ C⟩⟩
def FA(lost:List Nat):Nat->List Value->List (Value×AV)
 |_,[]=>[]
 |i,v::J=>bif lost.contains i then FA lost (i+1) J else(v,.own i)::FA lost (i+1) J
theorem ON(lost:List Nat)(i:Nat)(v:Value)(vs:List Value):FA lost i (v::vs)=if i∈lost then FA lost (i+1) vs else(v,.own i)::FA lost (i+1) vs:=by
 show(bif lost.contains i then FA lost (i+1) vs else(v,.own i)::FA lost (i+1) vs)=_;by_cases h:i∈lost
 .rw [Yan h,Ybu.2 h];rfl
 .have : lost.contains i = false := by cases E : lost.contains i with
   |true=>exact absurd (Ybu.1 E) h
   |false=>rfl
  rw[Yai h,this];rfl
theorem KQ{Q:List Nat}:∀{J:List Value} {i:Nat} {p:Value×AV},p∈FA Q i J->∃k,k<J.length/\p=(J.getD k undef,.own (i+k))
 |[],i,p,h=>by cases h
 |v::J,i,p,h=>by
  rw[ON]at h
  have key:p∈FA Q (i+1) J->∃k,k<(v::J).length/\p=((v::J).getD k undef,.own (i+k)):=λh=>by
   obtain⟨k,q,A⟩:=KQ h;exact⟨k+1,by simpa using q,by rw[A,show i+1+k=i+(k+1)by omega];rfl⟩
  split at h
  .exact key h
  .rcases YaM.1 h with rfl | h
   .exact ⟨0,by simp,rfl⟩
   .exact key h
theorem RM{lost:List Nat}:∀{vs:List Value} {i k:Nat},k<vs.length->i+k∉lost->(vs.getD k undef,AV.own (i+k))∈FA lost i vs
 | [],i,k,h,_=>by simp at h
 | v::vs,i,0,h,hl=>by
  rw [ON,Yai (by simpa using hl)]
  exact Ybp
 | v::vs,i,k+1,h,hl=>by
  have:=RM (lost:=lost) (vs:=vs) (i:=i+1) (k:=k) (by simpa using h) (by rwa [show i+1+k=i+(k+1) by omega])
  rw [show i+1+k=i+(k+1) by omega] at this
  rw [ON]
  split
  .exact this
  .exact Ybo _ this
def IJ(s:GS)(X:Nat->Value)(G:List Ow)(b:Nat):Prop:=∃i o,G[i]? = some o/\OwB s (X i) o b
def Sep(s:GS)(X:Nat->Value)(G:List Ow):Prop:=∀i j o t,i≠j->G[i]? = some o->G[j]? = some t->∀b,OwB s (X i) o b->¬OwB s (X j) t b
structure Aft(s:GS)(ρ:Nat->Value)(hp:List Ow)(lost:List Nat)(s':GS)(ρ':Nat->Value)(hp':List Ow):Prop where
 le:GS.LeX (IJ s ρ hp) s s'
 ok:s'.Ok
 mem:HpOk 0 ρ' s' hp'
 sep:Sep s' ρ' hp'
 own:∀i o b,hp'[i]? = some o->OwB s' (ρ' i) o b->IJ s ρ hp b\/s.w.heap.size<=b
 kp:∀i,i<hp.length->i∉lost->ρ' i=ρ i
 len:hp.length<=hp'.length
def Con(P:Program)(f:FuncId)(args:List AV)(G:List Ow)(A:List Nat)(Q:AV->List Ow->Prop):Prop:=
 (∀args w,(callFunc f args).run P w=.ok (.enter f args) w)/\∀(s:GS) (X:Nat->Value) (J:List Value),s.Ok->HpOk 0 X s G->Sep s X G->J.length=args.length->(∀(k:Nat) av,args[k]? = some av->AVr G.length X s av (J.getD k undef)) ->
  Calls P f J.toArray s.w λe M=>∃v,e=.returned v/\∃(j:GS) (q:Nat->Value) (r:AV) (H:List Ow),Q r H/\j.w=M/\AVr H.length q j r v/\Aft s X G A j q H
theorem Con.mono{f:FuncId}{lost:List Nat}{Q F:AV->List Ow->Prop}(h:Con P f R H lost Q)(k:∀r B,Q r B->F r B):Con P f R H lost F:=
 ⟨h.1,λs X J q A K Y n=>(h.2 s X J q A K Y n).mono λe M ⟨v,a,j,E,r,B,i,C⟩=>⟨v,a,j,E,r,B,k r B i,C⟩⟩
def Je:Nat->List AV->List (Nat×AV)
 |_,[]=>[]
 |i,d::S=>(i,d)::Je (i+1) S
theorem Ki:∀{S:List AV} {i t:Nat} {I:AV},Ch (Je i S) t=some I->i<=t/\S[t-i]? = some I
 |[],i,t,I,h=>by cases h
 |d::S,i,t,I,h=>by
  unfold Je at h;rw[Da]at h;split at h
  .rename_i e
   subst e;cases h;exact⟨Yah _,by simp⟩
  .rename_i e
   obtain⟨q,A⟩:=Ki h;refine⟨by omega,?_⟩;rw[show t-i=(t-(i+1))+1 by omega];simpa using A
structure RetsA(P:Program)(σ:AS)(rs:Array ResultVar)(r:AV):Prop where
 run:∀(base:Nat) (ρ:Nat->Value) (s:GS) (tmps:Array Value) (fn:Func),fn.results=rs->HpOk base ρ s σ.hp->(∀t av,Ch σ.fr t=some av->AVr σ.hp.length ρ s av (tmps.getD t undef))->∃v,(results fn tmps).run P s.w=.ok v s.w/\AVr σ.hp.length ρ s r v
theorem RetsA.d{σ:AS}{rs:Array ResultVar}(h:Rets P σ rs r):RetsA P σ rs (.d r):=⟨h.run⟩
theorem RetsA.one{r:AV}(h:Ch vf.fr n=some r):RetsA P vf #[.tmp n] r:=⟨λ_ _ _ y _ p _ X=>⟨_,Um p (rv:=.tmp n) rfl,X n r h⟩⟩
theorem RetsA.none{σ:AS}:RetsA P σ #[] (.d CC):=⟨λ_ _ s y b p _ _=>⟨.tuple #[],by unfold results;rw[p];simp,trivial⟩⟩
structure FinC(P:Program)(fn:Func)(lost:List Nat)(vs:List Value)(Q:AV->List Ow->Prop)(e:Exit)(σ:AS):Prop where
 how:e=.ret\/e=.normal
 res:∃r hp',RetsA P σ fn.results r/\hp'=σ.hp.set vs.length .dead/\Q r hp'
 pin:σ.hp[vs.length]? = some (.pin (FA lost 0 vs))
theorem Tl(M:P.funcs[ve]? = some vO)(E:vO.body=some vp)(xf:∀R w,(callFunc ve R).run P w=.ok (.enter ve R) w)(F:Nat.ble R.length vO.ntmps=true)
  (h:∀(Q:An) (f:List Value),f.length=H.length->AWp P Q vO.ntmps vp (FinC P vO l f vy) ⟨Je 0 R,H++[.pin (FA l 0 f)]⟩):Con P ve R H l vy:=by
 refine⟨xf,λs X f c u xg I N=>calls_of_wp M E ?_⟩;have y:R.length<=vO.ntmps:=by simpa[YdX]using F
 have xb:((List.range H.length).map X).length=H.length:=by simp
 have n:(H++[Ow.pin (FA l 0 ((List.range H.length).map X))]).length=H.length+1:=by simp
 have xa:∀i o,(H++[Ow.pin (FA l 0 ((List.range H.length).map X))])[i]? = some o->H[i]? = some o\/o=Ow.pin (FA l 0 ((List.range H.length).map X)):=λi o J=>ZaR
 have IL:∀k,k<H.length->((List.range H.length).map X).getD k undef=X k:=λk B=>by
  exact Zie
 refine wp_mono ((h ⟨s,IJ s X H,[]⟩ ((List.range H.length).map X) xb).run { tmps:=f.toArray++Array.replicate (vO.ntmps-f.toArray.size) undef,defers:=[] } s.w ⟨s,X,rfl,GS.LeX.refl _ s,c,λt d L=>?_,by simp;omega,rfl,λi o J=>?_,λi j o O z J W b xd xh=>?_,λi o b J xd=>?_⟩) ?_
 .exact ZaS
 .show OwR 0 (H++[Ow.pin _]).length X s i o
  rw[n];rcases xa i o J with q | rfl
  .exact (u i o q).mono (Yed _) (λ_ _=>rfl) (Cs q)
  .exact ZaT
 .exact ZaU
 .rcases xa i o J with q | rfl
  .exact .inl ⟨i,o,q,xd⟩
  .exact xd.elim
 .intro e a w ⟨τ,⟨C,⟨r,S,Z,xk,x⟩,xj⟩,G,m,g,V⟩
  subst g;subst xk;rw[xb]at xj x;obtain⟨v,q,A⟩:=Z.run _ m G a.tmps vO rfl V.hp V.fr
  have T:∀i o,(τ.hp.set H.length .dead)[i]? = some o->o=Ow.dead\/τ.hp[i]? = some o:=λi o J=>ZaV
  have U:Aft s X H l G m (τ.hp.set H.length .dead):=ZaW
  have xe:AVr (τ.hp.set H.length .dead).length m G r v:=by rw[Ycg];exact A
  rcases C with rfl | rfl
  .exact ⟨V.df,v,q,v,rfl,G,m,r,_,x,rfl,xe,U⟩
  .exact ⟨V.df,v,q,v,rfl,G,m,r,_,x,rfl,xe,U⟩
section
variable {P:Program} {f:FuncId} {fn:Func} {c:Code} {args:List AV} {Q:AV->List Ow->Prop} (hf:P.funcs[f]? = some fn) (hb:fn.body=some c) (hcf:∀args w,(callFunc f args).run P w=.ok (.enter f args) w) (hn:Nat.ble args.length fn.ntmps=true)
include hf hb hcf hn
end
theorem Bs{r:AV}(h:RetsA P vf vO.results r)(Z:GZ vf.hp ug.length .dead=some H)(i:vy r H)(G:vf.hp[ug.length]? = some (.pin (FA l 0 ug))):FinC P vO l ug vy .ret vf:=⟨.inl rfl,⟨r,H,h,(Fp Z),i⟩,G⟩
theorem AW{r:AV}(h:RetsA P vf vO.results r)(Z:GZ vf.hp ug.length .dead=some H)(i:vy r H)(G:vf.hp[ug.length]? = some (.pin (FA l 0 ug))):FinC P vO l ug vy .normal vf:=⟨.inr rfl,⟨r,H,h,(Fp Z),i⟩,G⟩
def AV.ren(e:Nat->Nat):AV->AV
 |.d x=>.d x
 |.ptr i off=>.ptr (e i) off
 |.own i=>.own (e i)
 |.fn f Y=>.fn f (Y.map e)
def Ow.ren(e:Nat->Nat):Ow->Ow
 |.var T cells=>.var T (cells.map (AV.ren e))
 |.pin l=>.pin (l.map λp=>(p.1,p.2.ren e))
 |o=>o
def AV.below(m:Nat):AV->Bool
 |.d _=>true
 |.ptr i _=>Nat.blt i m
 |.own i=>Nat.blt i m
 |.fn _ Y=>Y.all (Nat.blt · m)
def Ow.below(m:Nat):Ow->Prop
 |.var _ cells=>∀I∈cells,I.below m=true
 |.pin l=>∀p∈l,p.2.below m=true
 |_=>True
theorem Ql(h:f.below n=true):AVle H n f f:=by
 cases f with
 |d x=>exact AVle.d rfl
 |ptr i off=>exact AVle.ptr h
 |own i=>exact AVle.own h
 |fn q Y=>exact BY h
theorem Ak{m:Nat}{l:List (Value×AV)}(h:l.all (λp=>p.2.below m)=true):OwLe H m (.pin l) (.pin l):=OwLe.pin λp H=>Ql (Yaj.1 h p H)
theorem Ad{m T:Nat}{c:List AV}(h:c.all (AV.below m)=true):OwLe H m (.var T c) (.var T c):=OwLe.var rfl λk y N=>⟨y,N,Ql (Yaj.1 h y (YaB N))⟩
theorem Rb:OwB s z (vt.ren vF) n↔OwB s z vt n:=by cases vt<;>exact YdG
theorem AVr.un{e:Nat->Nat}(h:AVr n vi s (f.ren e) z)(E:f.below b=true)(G:∀i,i<b->ua i=vi (e i)):AVr b ua s f z:=by
 cases f with
 |d x=>exact h
 |ptr i off=>
  have J:i<b:=by simpa[AV.below,Ybh]using E
  obtain⟨A,q,B,K⟩:=h;exact⟨J,q,(G i J).trans B,K⟩
 |own i=>
  have J:i<b:=by simpa[AV.below,Ybh]using E
  exact⟨J,h.2.trans (G i J).symm⟩
 |fn C Y=>
  have J:∀i∈Y,i<b:=λi J=>by
   have:=Yaj.1 E i J;simpa[Ybh]using this
  refine⟨J,?_⟩;have B:=h.2;rw[Yce]at B;rw[B];exact congrArg (fnV C) (YaY λi F=>(G i (J i F)).symm)
theorem AVr.re(h:AVr n vi s f z)(a:∀i,i<n->vF i<b)(F:∀i,i<n->ua (vF i)=vi i):AVr b ua s (f.ren vF) z:=by
 cases f with
 |d x=>exact h
 |ptr i off=>
  obtain⟨A,q,B,K⟩:=h;exact⟨a i A,q,(F i A).trans B,K⟩
 |own i=>exact⟨a i h.1,h.2.trans (F i h.1).symm⟩
 |fn C Y=>
  refine⟨λi J=>?_,?_⟩
  .obtain ⟨j,W,rfl⟩:=YaA.1 J
   exact a j (h.1 j W)
  .rw [Yce,h.2,YaY λi J=>(F i (h.1 i J)).symm]
   rfl
theorem OwR.un{e:Nat->Nat}(h:OwR 0 n vi s (e T) (vt.ren e))(F:vt.below b)(J:T<b)(V:∀T,T<b->ua T=vi (e T)):OwR 0 b ua s T vt:=by
 cases vt with
 |dead=>trivial
 |var C cells=>
  obtain⟨q,f,A,B,K,Y,I,M,S⟩:=h;refine⟨q,f,(V T J).trans A,B,K,by simpa using Y,I,M,λk Q E=>?_⟩;obtain⟨u,y,W,X⟩:=S k (Q.ren e) (by rw[Yau,E];rfl);exact⟨u,y,W,X.un (F Q (YaB E)) V⟩
 |row C L N=>
  replace h:OwR 0 n vi s (e T) (.row C L N):=h;unfold OwR at h ⊢;rw[V T J];exact h
 |obj O=>
  show O.rel s (ua T);rw[V T J];exact h
 |pin l=>exact λp G=>(h (p.1,p.2.ren e) (Yca (f:=λp:Value×AV=>(p.1,p.2.ren e)) G)).un (F p G) V
theorem OwR.re(h:OwR 0 n vi s T vt)(J:T<n)(a:∀T,T<n->vF T<b)(Z:∀T,T<n->ua (vF T)=vi T):OwR 0 b ua s (vF T) (vt.ren vF):=by
 cases vt with
 |dead=>trivial
 |var E cells=>
  obtain⟨A,f,B,C,K,Y,L,N,V⟩:=h;refine⟨A,f,(Z T J).trans B,C,K,by simpa using Y,L,N,λk S F=>?_⟩;rw[Yau]at F
  cases c:cells[k]? with
  |none=>rw[c]at F;cases F
  |some d=>
   rw[c]at F;cases F;obtain⟨u,y,W,X⟩:=V k d c;exact⟨u,y,W,X.re a Z⟩
 |row E M Q=>
  show OwR 0 b ua s (vF T) (.row E M Q);unfold OwR at h ⊢;rw[Z T J];exact h
 |obj O=>
  show O.rel s (ua (vF T));rw[Z T J];exact h
 |pin l=>
  intro p G;obtain⟨q,I,rfl⟩:=YaA.1 G;exact(h q I).re a Z
def BM(sel:List Nat)(m k:Nat):Nat:=bif Nat.blt k sel.length then sel.getD k 0 else m+(k-sel.length)
theorem Ft(h:b<l.length):BM l n b=l.getD b 0:=by
 have:Nat.blt b l.length=true:=by simpa[Ybh]using h
 rw[BM,this];rfl
theorem Km(h:l.length<=b):BM l n b=n+(b-l.length):=by
 have:Nat.blt b l.length=false:=by cases E:Nat.blt b l.length<;>simp_all [Ybh];omega
 rw[BM,this];rfl
def SelR(e:Nat->Nat)(H:List Ow)(m:Nat):List Nat->List Ow->Prop
 |[],[]=>True
 |j::l,o::os=>H[j]? = some (o.ren e)/\o.below m/\SelR e H m l os
 |_,_=>False
theorem SelR.get{e:Nat->Nat}{H:List Ow}{m:Nat}:∀{l:List Nat} {os:List Ow},SelR e H m l os->l.length=os.length/\∀(k:Nat) o,os[k]? = some o->H[l.getD k 0]? = some (o.ren e)/\o.below m
 |[],[],_=>⟨rfl,λk o h=>by cases h⟩
 |[],_::_,h=>h.elim
 |_::_,[],h=>h.elim
 |j::l,o::os,⟨q,A,K⟩=>by
  obtain⟨Y,n⟩:=SelR.get K;refine⟨by simp[Y],λk x C=>?_⟩
  cases k with
  |zero=>cases C;exact⟨q,A⟩
  |succ k=>exact n k x Zei
def SetR(e:Nat->Nat):List Ow->List Nat->List Ow->List Ow->Prop
 |H,[],_,G=>H=G
 |H,j::l,o::os,G=>SetR e (H.set j (o.ren e)) l os G
 |_,_::_,[],_=>False
theorem SetR.get{e:Nat->Nat}:∀{l:List Nat} {H os G:List Ow},SetR e H l os G->G.length=H.length/\l.length<=os.length/\∀(i:Nat) x,G[i]? = some x->(∃k o,k<l.length/\l.getD k 0=i/\os[k]? = some o/\x=o.ren e)\/(i∉l/\H[i]? = some x)
 |[],H,os,G,h=>by
  have h:H=G:=by cases os<;>exact h
  subst h;exact⟨rfl,Yaw _,λi x C=>.inr ⟨by simp,C⟩⟩
 |_::_,_,[],_,h=>h.elim
 |j::l,H,o::os,G,h=>by
  replace h:SetR e (H.set j (o.ren e)) l os G:=h;obtain⟨q,A,K⟩:=SetR.get h;refine⟨by simpa using q,by simp;omega,λi x C=>?_⟩;rcases K i x C with⟨k,t,Y,n,B,f⟩ | ⟨Y,n⟩
  .exact .inl ⟨k+1,t,by simp;omega,by simpa using n,by simpa using B,f⟩
  .rw [Ycb]at n
   split at n
   .rename_i b
    subst b;split at n
    .exact .inl ⟨0,o,by simp,rfl,rfl,(Yag n).symm⟩
    .cases n
   .rename_i b
    exact .inr ⟨by simp only[YaM,not_or];exact⟨λe=>b e.symm,Y⟩,n⟩
theorem Ut(h:l.Nodup)(J:n<l.length)(W:b<l.length)(e:l[n]=l[b]):n=b:=by
 rcases Ycm n b with q | q | q
 .exact absurd e (YcO.1 h n b J W q)
 .exact q
 .exact absurd e.symm (YcO.1 h b n W J q)
def AV.avoid(lost:List Nat):AV->Bool
 |.d _=>true
 |.ptr i _=>!lost.contains i
 |.own i=>!lost.contains i
 |.fn _ Y=>Y.all λi=>!lost.contains i
def Ow.avoid(lost:List Nat):Ow->Prop
 |.var _ cells=>∀I∈cells,I.avoid lost=true
 |.pin l=>∀p∈l,p.2.avoid lost=true
 |_=>True
theorem RY(h:(!l.contains n)=true):n∉l:=λx=>by
 rw[Ybu.2 x]at h;cases h
theorem AVr.kept(h:AVr n vi s f z)(F:n<=b)(E:f.avoid l=true)(G:∀i,i<n->i∉l->ua i=vi i):AVr b ua s f z:=by
 cases f with
 |d x=>exact h
 |ptr i off=>
  obtain⟨A,q,B,K⟩:=h;exact⟨Yaq A F,q,(G i A (RY E)).trans B,K⟩
 |own i=>exact⟨Yaq h.1 F,h.2.trans (G i h.1 (RY E)).symm⟩
 |fn C Y=>exact⟨λi J=>Yaq (h.1 i J) F,by rw[h.2,YaY λi J=>(G i (h.1 i J) (RY (Yaj.1 E i J))).symm]⟩
theorem OwR.kept(h:OwR 0 n vi s T vt)(x:n<=b)(L:vt.avoid l)(J:T<n)(I:T∉l)(a:∀T,T<n->T∉l->ua T=vi T):OwR 0 b ua s T vt:=by
 cases vt with
 |dead=>trivial
 |var E cells=>
  obtain⟨q,f,A,C,K,Y,M,Q,W⟩:=h;refine⟨q,f,(a T J I).trans A,C,K,Y,M,Q,λk V F=>?_⟩;obtain⟨u,y,X,Z⟩:=W k V F;exact⟨u,y,X,Z.kept x (L V (YaB F)) a⟩
 |row E N S=>
  unfold OwR at h ⊢;rw[a T J I];exact h
 |obj O=>
  unfold OwR at h ⊢;rw[a T J I];exact h
 |pin B=>exact λp G=>(h p G).kept x (L p G) a
theorem StI.con{s0:An}{sel lost:List Nat}{hpS hp' H1:List Ow}(c:(∀p∈vf.fr,p.2.avoid (lost.map (BM sel vf.hp.length))=true)/\∀i o,i∉sel->vf.hp[i]? = some o->o.avoid (lost.map (BM sel vf.hp.length)))(xg:∀k∈lost,k<sel.length)(h:StI s0 n vf vj s vi)(xd:sel.Nodup)(xb:SelR (BM sel vf.hp.length) vf.hp hpS.length sel hpS)
  (T:Aft s (λk=>vi (BM sel vf.hp.length k)) hpS lost vr ua hp') (R:SetR (BM sel vf.hp.length) vf.hp sel hp' H1) :
  ∃xj,StI s0 n ⟨vf.fr,H1++(hp'.drop sel.length).map (Ow.ren (BM sel vf.hp.length))⟩ vj vr xj/\∀M v,AVr hp'.length ua vr M v->AVr (H1++(hp'.drop sel.length).map (Ow.ren (BM sel vf.hp.length))).length xj vr (M.ren (BM sel vf.hp.length)) v:=by
 obtain⟨X,S⟩:=xb.get;obtain⟨H,xm,xk⟩:=R.get;have Q:(H1++(hp'.drop sel.length).map (Ow.ren (BM sel vf.hp.length))).length=vf.hp.length+(hp'.length-sel.length):=by simp[H]
 have xi:∀k,k<sel.length->sel.getD k 0<vf.hp.length:=λk B=>by
  have g:k<hpS.length:=by omega
  exact Cs (S k _ (Yac g)).1
 have xo:∀k,k<sel.length->sel.getD k 0∈sel:=λk B=>by
  exact ZhK
 have xt:∀j k,j<sel.length->k<sel.length->sel.getD j 0=sel.getD k 0->j=k:=λj k W B a=>by
  rw[Yab,Yac W,Yab,Yac B]at a;exact Ut xd W B a
 have z:∀i,∃k,(∃U,U<sel.length/\sel.getD U 0=i)->k<sel.length/\sel.getD k 0=i:=λi=>by
  by_cases C:∃U,U<sel.length/\sel.getD U 0=i
  .obtain ⟨k,B⟩:=C
   exact⟨k,λ_=>B⟩
  .exact ⟨0,λh=>absurd h C⟩
 obtain⟨pos,z⟩:∃pos:Nat->Nat,∀i,(∃U,U<sel.length/\sel.getD U 0=i)->pos i<sel.length/\sel.getD (pos i) 0=i:=⟨λi=>(z i).choose,λi=>(z i).choose_spec⟩;let w:Nat->Value:=λi=>if i<vf.hp.length then(if i∈sel then ua (pos i)else vi i)else ua (i-vf.hp.length+sel.length)
 have xw:∀i,i∈sel->∃U,U<sel.length/\sel.getD U 0=i:=λi J=>by
  obtain⟨k,B⟩:=YbL J;have:=(Yae.1 B).1;exact⟨k,this,by rw[Yab,B];rfl⟩
 have xq:∀i,i<hp'.length->w (BM sel vf.hp.length i)=ua i:=λi J=>by
  rcases YaD i sel.length with q | q
  .have K:=z _ ⟨i,q,rfl⟩
   rw[Ft q];show(if sel.getD i 0<vf.hp.length then(if sel.getD i 0∈sel then ua (pos (sel.getD i 0))else _)else _)=_;rw[Yan (xi i q),Yan (xo i q),xt _ _ K.1 q K.2]
  .rw [Km q]
   show(if _ then _ else ua (vf.hp.length+(i-sel.length)-vf.hp.length+sel.length))=_;rw[Yai ZbG];exact Zhe
 have xr:∀i,i<vf.hp.length->i∉lost.map (BM sel vf.hp.length)->w i=vi i:=λi J xh=>by
  show(if i<vf.hp.length then(if i∈sel then ua (pos i)else vi i)else _)=_;rw[Yan J];by_cases C:i∈sel
  .rw [Yan C]
   obtain⟨q,A⟩:=z i (xw i C);have K:pos i∉lost:=λI=>xh (YaA.2 ⟨pos i,I,by rw[Ft q,A]⟩);rw[T.kp (pos i) ZbG K,Ft q,A]
  .rw [Yai C]
 have xu:∀i,i∉sel->i∉lost.map (BM sel vf.hp.length):=λi J I=>by
  obtain⟨k,q,A⟩:=YaA.1 I;have K:=xg k q;rw[Ft K]at A;exact J (by rw[<-A];exact xo k K)
 have xf:∀i,i<hp'.length->BM sel vf.hp.length i<vf.hp.length+(hp'.length-sel.length):=λi J=>by
  rcases YaD i sel.length with q | q
  .rw [Ft q]
   have:=xi i q;omega
  .rw [Km q]
   omega
 have xs:∀i j,i<hp'.length->j<hp'.length->BM sel vf.hp.length i=BM sel vf.hp.length j->i=j:=λi j J W a=>by
  rcases YaD i sel.length with q | q<;>rcases YaD j sel.length with A | A
  .rw [Ft q,Ft A]at a
   exact xt i j q A a
  .rw [Ft q,Km A]at a
   have:=xi i q;omega
  .rw [Km q,Ft A]at a
   have:=xi j A;omega
  .rw [Km q,Km A]at a
   omega
 have l:∀i x,(H1++(hp'.drop sel.length).map (Ow.ren (BM sel vf.hp.length)))[i]? = some x->(∃k o,hp'[k]? = some o/\i=BM sel vf.hp.length k/\x=o.ren (BM sel vf.hp.length))\/(i<vf.hp.length/\i∉sel/\vf.hp[i]? = some x):=λi x C=>by
  rw[YaQ]at C;split at C
  .rename_i O
   rcases xk i x C with⟨k,o,q,A,K,Y⟩ | ⟨q,A⟩
   .exact .inl ⟨k,o,K,by rw[Ft q];exact A.symm,Y⟩
   .exact .inr ⟨by omega,q,A⟩
  .rename_i m
   rw[Yau,YbO]at C
   cases B:hp'[sel.length+(i-H1.length)]? with
   |none=>rw[B]at C;cases C
   |some o=>
    rw[B]at C;exact .inl ⟨_,o,B,by rw[Km ZbG];omega,(Yag C).symm⟩
 have xn:∀b,IJ s (λk=>vi (BM sel vf.hp.length k)) hpS b->∃k o,k<sel.length/\hpS[k]? = some o/\vf.hp[sel.getD k 0]? = some (o.ren (BM sel vf.hp.length))/\OwB s (vi (sel.getD k 0)) (o.ren (BM sel vf.hp.length)) b:=λb ⟨k,o,q,A⟩=>by
  have B:k<sel.length:=by have:=Cs q;omega
  replace A:OwB s (vi (BM sel vf.hp.length k)) o b:=A;rw[Ft B]at A;exact⟨k,o,B,q,(S k o q).1,Rb.2 A⟩
 have u:∀i x,i∉sel->vf.hp[i]? = some x->∀b,OwB s (vi i) x b->¬IJ s (λk=>vi (BM sel vf.hp.length k)) hpS b:=λi x J C b E I=>by
  obtain⟨k,o,q,A,K,Y⟩:=xn b I;exact h.sep i _ x _ (λe=>J (by rw[e];exact xo k q)) C K b E Y
 have xv:∀i x,i∉sel->vf.hp[i]? = some x->∀b,OwB s (vi i) x b->vr.w.heap[b]? = s.w.heap[b]? /\ ∀k,vr.S b k↔s.S b k:=λi x J C b E=>by
  have q:=u i x J C b E;have A:=(h.hp i x C).blk_lt0 E;exact⟨T.le.block b A q,λk=>⟨T.le.old b k A q,T.le.chg.up b k⟩⟩
 have xc:∀i x,i<vf.hp.length->i∉sel->vf.hp[i]? = some x->∀b,OwB vr (w i) x b->OwB s (vi i) x b:=λi x O J C b E=>OwB.keep (h.hp i x C) T.le.chg (xv i x J C) (by rw[<-xr i O (xu i J)];exact E)
 have P:∀k o b,hp'[k]? = some o->OwB vr (w (BM sel vf.hp.length k)) (o.ren (BM sel vf.hp.length)) b->OwB vr (ua k) o b:=λk o b B E=>by
  rw[xq k (Cs B)]at E;exact Rb.1 E
 have xp:∀b,IJ s (λk=>vi (BM sel vf.hp.length k)) hpS b->s0.mine b\/s0.g.w.heap.size<=b:=λb I=>by
  obtain⟨k,o,q,A,K,Y⟩:=xn b I;exact h.own _ _ b K Y
 refine⟨w,⟨?_,T.ok,λt M L=>?_,h.sz,h.df,λi x C=>?_,λi j x y d C N b xl xe=>?_,λi x b C E=>?_⟩,λM v r=>?_⟩
 .refine ⟨T.le.os.trans h.le.os,T.le.tape.trans h.le.tape,T.le.output.trans h.le.output,λk B I=>?_,h.le.chg.trans T.le.chg,λb k E I Z=>?_,λb E=>(T.le.tag b (Yaq E h.le.size)).trans (h.le.tag b E),λ_=>T.ok⟩
  .have F:¬IJ s (λk=>vi (BM sel vf.hp.length k)) hpS k:=λC=>(xp k C).elim I λV=>absurd B ZbG
   exact(T.le.block k (Yaq B h.le.size) F).trans (h.le.block k B I)
  .have F:¬IJ s (λk=>vi (BM sel vf.hp.length k)) hpS b:=λC=>(xp b C).elim I λV=>absurd E ZbG
   exact h.le.old b k E I (T.le.old b k (Yaq E h.le.size) F Z)
 .show AVr (H1++_).length w vr M _
  rw[Q];exact((h.fr t M L).chg T.le.chg).kept ZbG (c.1 _ (Ff L)) xr
 .show OwR 0 (H1++_).length w vr i x
  rw[Q];rcases l i x C with⟨k,o,q,rfl,rfl⟩ | ⟨q,A,K⟩
  .exact (T.mem k o q).re (Cs q) xf xq
  .exact ((h.hp i x K).keep T.le.chg (xv i x A K)).kept ZbG (c.2 i x A K) q (xu i A) xr
 .rcases l i x C with⟨k,o,q,rfl,rfl⟩ | ⟨q,A,K⟩<;>rcases l j y N with⟨U,G,Y,rfl,rfl⟩ | ⟨Y,h5,h6⟩
  .exact T.sep k U o G (λe=>d Zey) q Y b (P k o b q xl) (P U G b Y xe)
  .have xa:=xc j y Y h5 h6 b xe
   rcases T.own k o b q (P k o b q xl)with f | f
   .exact u j y h5 h6 b xa f
   .have:=(h.hp j y h6).blk_lt0 xa
    omega
  .have xa:=xc i x q A K b xl
   rcases T.own U G b Y (P U G b Y xe)with f | f
   .exact u i x A K b xa f
   .have:=(h.hp i x K).blk_lt0 xa
    omega
  .exact h.sep i j x y d K h6 b (xc i x q A K b xl) (xc j y Y h5 h6 b xe)
 .rcases l i x C with⟨k,o,q,rfl,rfl⟩ | ⟨q,A,K⟩
  .rcases T.own k o b q (P k o b q E)with f | f
   .exact xp b f
   .exact .inr (Yat h.le.size f)
  .exact h.own i x b K (xc i x q A K b E)
 .rw [Q]
  exact r.re xf xq
def Abz(G:List Ow)(e:Nat->Nat)(m:Nat)(y a:AV):Prop:=(∃d g,a=.d d/\HV G y=some g/\D.le g d)\/(y=a.ren e/\a.below m=true)
def ArgsC(G:List Ow)(e:Nat->Nat)(m:Nat)(arg:Operand->AV):List Operand->List AV->Prop
 |[],[]=>True
 |x::l,a::B=>Abz G e m (arg x) a/\ArgsC G e m arg l B
 |_,_=>False
theorem ArgsC.get{G:List Ow}{e:Nat->Nat}{m:Nat}{arg:Operand->AV}:∀{l:List Operand} {B:List AV},ArgsC G e m arg l B->l.length=B.length/\∀(k:Nat) a,B[k]? = some a->∃x,l[k]? = some x/\Abz G e m (arg x) a
 |[],[],_=>⟨rfl,λk o h=>by cases h⟩
 |[],_::_,h=>h.elim
 |_::_,[],h=>h.elim
 |x::l,a::B,⟨q,A⟩=>by
  obtain⟨Y,n⟩:=ArgsC.get A;refine⟨by simp[Y],λk y N=>?_⟩
  cases k with
  |zero=>cases N;exact⟨x,rfl,q⟩
  |succ k=>simpa using n k y (by simpa using N)
theorem ArgsC.nil{hp:List Ow}{e:Nat->Nat}{m:Nat}:ArgsC hp e m vz [] []:=trivial
theorem ArgsC.d{hp:List Ow}{e:Nat->Nat}{m:Nat}{arg:Operand->AV}{l:List Operand}{d g:D}(h:HV hp (arg x)=some g)(I:D.le g d)(V:ArgsC hp e m arg l R):ArgsC hp e m arg (x::l) (.d d::R):=⟨.inl ⟨d,g,rfl,h,I⟩,V⟩
theorem ArgsC.av{hp:List Ow}{e:Nat->Nat}{m:Nat}{l:List Operand}{a:AV}(h:vz x=a.ren e)(E:a.below m=true)(V:ArgsC hp e m vz l R):ArgsC hp e m vz (x::l) (a::R):=⟨.inr ⟨h,E⟩,V⟩
theorem SelR.nil{e:Nat->Nat}{m:Nat}:SelR e H m [] []:=trivial
theorem SelR.row{e:Nat->Nat}{m j T sz:Nat}(h:H[j]? = some (.row T sz vm))(V:SelR e H m l vA):SelR e H m (j::l) (.row T sz vm::vA):=⟨h,trivial,V⟩
theorem SelR.varA{e:Nat->Nat}{m j:Nat}(h:H[j]? = some (.var t uu))(A:uu=R.map (AV.ren e))(E:R.all (AV.below m)=true)(V:SelR e H m l vA):SelR e H m (j::l) (.var t R::vA):=⟨by rw[h,A];rfl,Yaj.1 E,V⟩
def OwRen(e:Nat->Nat)(o t:Ow):Prop:=t=o.ren e
theorem OwRen.dead{e:Nat->Nat}:OwRen e .dead .dead:=rfl
theorem SetR.nil{e:Nat->Nat}:SetR e H [] vA H:=by cases vA<;>rfl
theorem SetR.cons{e:Nat->Nat}{H y os G:List Ow}{j:Nat}(h:OwRen e vt uE)(Z:GZ H j uE=some y)(V:SetR e y l os G):SetR e H (j::l) (vt::os) G:=by
 rw[Fp Z,h]at V;exact V
def AppR(e:Nat->Nat)(H os G:List Ow):Prop:=G=H++os.map (Ow.ren e)
theorem AppR.nil{e:Nat->Nat}:AppR e H [] H:=by simp[AppR]
def My:Nat->List Ow->List Ow
 |0,l=>l
 |n+1,_::l=>My n l
 |_+1,[]=>[]
theorem NG:∀(n:Nat) (l:List Ow),My n l=l.drop n
 |0,l=>rfl
 |n+1,_::l=>NG n l
 |_+1,[]=>rfl
def AVRen(e:Nat->Nat)(a q:AV):Prop:=q=a.ren e
theorem AVRen.d{e:Nat->Nat}{x:D}:AVRen e (.d x) (.d x):=rfl
theorem AVRen.own{e:Nat->Nat}{i j:Nat}(h:e i=j):AVRen e (.own i) (.own j):=by subst h;rfl
theorem A70(q:l.map vF=h):AVRen vF (.fn ve l) (.fn ve h):=by subst q;rfl
def CapsOk(m:List Ow):List Nat->Prop
 |[]=>True
 |i::l=>(∃T cells,m[i]? = some (.var T cells))/\CapsOk m l
theorem CapsOk.get{hpS:List Ow}:∀{l:List Nat},CapsOk hpS l->∀i∈l,∃T cells,hpS[i]? = some (.var T cells)
 |[],_,i,J=>by cases J
 |j::l,⟨q,A⟩,i,J=>by
  rcases YaM.1 J with rfl | J
  .exact q
  .exact CapsOk.get A i J
def AvoidR(sel lost:List Nat):Nat->List Ow->Prop
 |_,[]=>True
 |i,o::l=>(i∈sel\/o.avoid lost)/\AvoidR sel lost (i+1) l
theorem AvoidR.get{sel lost:List Nat}:∀{l:List Ow} {i:Nat},AvoidR sel lost i l->∀k o,i+k∉sel->l[k]? = some o->o.avoid lost
 |[],_,_,k,o,_,h=>by cases h
 |x::l,i,⟨q,A⟩,0,o,B,h=>by
  cases h;exact q.resolve_left B
 |x::l,i,⟨q,A⟩,k+1,o,B,h=>AvoidR.get A k o (by rwa [show i+1+k=i+(k+1)by omega]) Zdf
section
variable {sel lost:List Nat} {i:Nat} {l:List Ow}
theorem AvoidR.nil:AvoidR sel lost i []:=trivial
theorem Aj(h:sel.contains i=true)(V:AvoidR sel lost (i+1) l):AvoidR sel lost i (vt::l):=⟨.inl (Ybu.1 h),V⟩
theorem AvoidR.dead(V:AvoidR sel lost (i+1) l):AvoidR sel lost i (.dead::l):=⟨.inr trivial,V⟩
theorem AvoidR.varD(V:AvoidR sel lost (i+1) l):AvoidR sel lost i (.var t (v.map .d)::l):=⟨.inr λI O=>by obtain⟨d,_,rfl⟩:=YaA.1 O;rfl,V⟩
theorem AvoidR.pin{c:List (Value×AV)}(h:c.all (λp=>p.2.avoid lost)=true)(V:AvoidR sel lost (i+1) l):AvoidR sel lost i (.pin c::l):=⟨.inr (Yaj.1 h),V⟩
end
def LostOk(sel Q:List Nat)(m:Nat)(e:List (Nat×AV))(G:List Ow):Prop:=Q=[]\/(Q.all (Nat.blt · sel.length)=true/\e.all (λp=>p.2.avoid (Q.map (BM sel m)))=true/\AvoidR sel (Q.map (BM sel m)) 0 G)
theorem AV.avoid_nil(I:AV):I.avoid []=true:=by
 cases I with
 |fn f Y=>exact Yaj.2 λi _=>rfl
 |_=>rfl
theorem Ow.avoid_nil(o:Ow):o.avoid []:=by
 cases o with
 |var T c=>exact λI _=>I.avoid_nil
 |pin l=>exact λp _=>p.2.avoid_nil
 |_=>trivial
theorem LostOk.get{sel lost:List Nat}(h:LostOk sel lost n vc H):((∀p∈vc,p.2.avoid (lost.map (BM sel n))=true)/\∀i o,i∉sel->H[i]? = some o->o.avoid (lost.map (BM sel n)))/\∀k∈lost,k<sel.length:=by
 rcases h with rfl | ⟨h1,h2,h3⟩
 .exact ⟨⟨λp _=>p.2.avoid_nil,λi o _ _=>o.avoid_nil⟩,λk B=>by cases B⟩
 .exact ⟨⟨Yaj.1 h2,λi o J m=>h3.get i o (by rwa [YaG]) m⟩,λk B=>by simpa[Ybh]using Yaj.1 h1 k B⟩
section
variable {P:Program} {s0:An} {n:Nat} {ops:Array Oper} {Q:Exit->AS->Prop} {rest:List Oper} {fr:List (Nat×AV)} {hp:List Ow}
end
end Go.Proofs.YtcikkglcoeedlaaGreat
set_option linter.unusedSimpArgs false
set_option linter.unusedVariables false
namespace Go.Proofs.YtcikkglcoeedlaaGreat
open _root_.Go.Proofs.Tryz
open Go.RowKit
section
variable {P:Program} {s0:An} {n:Nat} {ops:Array Oper} {Q:Exit->AS->Prop} {rest:List Oper} {fr:List (Nat×AV)} {hp:List Ow}
variable{l:List Nat}{H vA uQ:List Ow}
theorem Kr{t m:Nat}{r B:AV}(h:AWl P s0 n ops Q rest ⟨(t,B)::fr,uQ⟩)(q:AVRen (BM l m) r B:=by first | exact AVRen.d | exact AVRen.own rfl | exact AVRen.ptr rfl | exact A70 rfl)(A:SetR (BM l m) hp l H vA:=by repeat (first | exact SetR.nil | (apply SetR.cons;(first | exact OwRen.dead | exact OwRen.varD | exact OwRen.obj | exact OwRen.row | exact OwRen.varA rfl);exact rfl)))(K:AppR (BM l m) vA (My l.length H) uQ:=by repeat (first | exact AppR.nil | (apply AppR.cons;(first | exact OwRen.dead | exact OwRen.varD | exact OwRen.obj | exact OwRen.row | exact OwRen.varA rfl);exact rfl))):∃B vA uQ,AVRen (BM l m) r B/\SetR (BM l m) hp l H vA/\AppR (BM l m) vA (My l.length H) uQ/\AWl P s0 n ops Q rest ⟨(t,B)::fr,uQ⟩:=⟨_,_,_,q,A,K,h⟩
end
def DownR(id:Nat)(x:D):List Ow->List Ow->Prop
 |[],[]=>True
 |o::l,t::J=>t=o.mapA (down id x)/\DownR id x l J
 |_,_=>False
theorem DownR.eq{id:Nat}{x:D}:∀{l J:List Ow},DownR id x l J->J=l.map (Ow.mapA (down id x))
 |[],[],_=>rfl
 |[],_::_,h=>h.elim
 |_::_,[],h=>h.elim
 |o::l,t::J,⟨q,A⟩=>by rw[Ybc,<-q,DownR.eq A]
section
variable {id:Nat} {x:D} {l l':List Ow}
theorem DownR.nil:DownR id x [] []:=trivial
theorem DownR.row{T sz:Nat}{r:List (List D)}(h:DownR id x l l'):DownR id x (.row T sz r::l) (.row T sz r::l'):=⟨rfl,h⟩
theorem DownR.pin{c:List (Value×AV)}(F:Gl id (c.map (·.2))=true)(h:DownR id x l l'):DownR id x (.pin c::l) (.pin c::l'):=⟨by simp only[Ow.mapA,RL F],h⟩
def Li(id:Nat)(x:D):List AV->Option (List AV)
 |[]=>some []
 |.own j::l=>match Li id x l with
  |some r=>bif Nat.beq j id then some (.d x::r)else some (.own j::r)
  |none=>none
 |.d y::l=>match Li id x l with
  |some r=>some (.d y::r)
  |none=>none
 |.ptr i off::l=>match Li id x l with
  |some r=>some (.ptr i off::r)
  |none=>none
 |.fn f c::l=>match Li id x l with
  |some r=>bif c.contains id then some (.d CC::r)else some (.fn f c::r)
  |none=>none
theorem YC:∀{c k:List AV},Li id x c=some k->k=c.map (down id x)
 |[],k,h=>by cases h;rfl
 |I::c,k,h=>by
  have key:∃A,Li id x c=some A/\k=down id x I::A:=by
   cases I with
   |d y=>unfold Li at h;split at h<;>first |(cases h;done) |(rename_i A V;cases h;exact⟨A,V,rfl⟩)
   |ptr i o=>unfold Li at h;split at h<;>first |(cases h;done) |(rename_i A V;cases h;exact⟨A,V,rfl⟩)
   |own j=>
    unfold Li at h;split at h
    .rename_i A V
     refine⟨A,V,?_⟩
     cases E:Nat.beq j id with
     |true=>rw[E]at h;cases h;exact Zip
     |false=>rw[E]at h;cases h;exact Zip
    .cases h
   |fn f t=>
    unfold Li at h;split at h
    .rename_i A V
     refine⟨A,V,?_⟩
     cases E:t.contains id with
     |true=>rw[E]at h;cases h;exact Zip
     |false=>rw[E]at h;cases h;exact Zip
    .cases h
  obtain⟨A,q,rfl⟩:=key;rw[YC q];rfl
variable{t:TypeId}
theorem DownR.varA{c k:List AV}(F:Li id x c=some k)(h:DownR id x l l'):DownR id x (.var t c::l) (.var t k::l'):=⟨by rw[YC F];rfl,h⟩
end
section
variable {P:Program} {s0:An} {n:Nat} {ops:Array Oper} {Q:Exit->AS->Prop} {rest:List Oper} {fr:List (Nat×AV)} {hp:List Ow} {ty:TypeId} {ps:String} {af:Array Edge}
variable{vc:List (Nat×AV)}{H vA:List Ow}{x y:Operand}{z u:Value}
theorem Ot{t T E s bytes id m b e:Nat}{d:TypeDesc}{A r2:List (List D)}(C:AS.arg ⟨fr,hp⟩ x=.own id)(N:HV hp (AS.arg ⟨fr,hp⟩ y)=some (slD E s r2))(B:hp[id]? = some (.row T s A))(L:Tab P t (.slice T) m b u)(i:Tab P T d s bytes z)(F:z.cells.size=s)(q:Nat.blt e n=true)(R:(A.length+r2.length)*bytes<=140737488355328)(M:A.length+r2.length<=4611686018427387904)
  (p:JT id (slD T s A) fr=some vc) (g:DownR id (slD T s A) hp H) (Z:GZ H id (.row T s (A++r2))=some vA) (h:AWl P s0 n ops Q rest ⟨(e,.own id)::vc,vA⟩) :
  AWl P s0 n ops Q (⟨some e,.call { callee:=.builtin .append,args:=#[x,y],argTypes:=#[t,t] },ty,ps,af,none⟩::rest) ⟨fr,hp⟩:=by
 refine Tt rfl rfl C N B L i F (by simpa[Wh]using q) R M ?_;rw[SG p,Fp Z,g.eq]at h;exact h
def A4R:List AV->Nat->AV->Option (List AV)
 |[],_,_=>none
 |_::l,0,x=>some (x::l)
 |y::l,k+1,x=>match A4R l k x with
  |some r=>some (y::r)
  |none=>none
theorem Vs:∀{l:List AV} {k:Nat} {x:AV} {r:List AV},A4R l k x=some r->k<l.length/\r=l.set k x
 |[],_,_,_,h=>by cases h
 |_::l,0,x,r,h=>by cases h;exact⟨by simp,rfl⟩
 |y::l,k+1,x,r,h=>by
  unfold A4R at h;split at h
  .rename_i B V
   cases h;obtain⟨q,A⟩:=Vs V;exact⟨by simpa using q,by rw[A];rfl⟩
  .cases h
variable{f:AV}{R uu:List AV}{t U:TypeId}
theorem Ep{d:TypeDesc}{b id off:Nat}(C:AS.arg ⟨fr,hp⟩ x=.ptr id off)(N:AS.arg ⟨fr,hp⟩ y=f)(s:hp[id]? = some (.var U R))(L:Tab P t d 1 b z)(q:One hp f)(i:A4R R off f=some uu)(Z:GZ hp id (.var U uu)=some H)(h:AWl P s0 n ops Q rest ⟨fr,H⟩) :
  AWl P s0 n ops Q (⟨none,.store t x y,ty,ps,af,none⟩::rest) ⟨fr,hp⟩:=by
 obtain⟨A,K⟩:=Vs i;refine Ts (o:=⟨none,.store t x y,ty,ps,af,none⟩) rfl rfl rfl C N s L q A ?_;rw[Fp Z,K]at h;exact h
theorem Ky{m:Nat}(id k T M:Nat)(r:hp[id]? = some (.var t R))(F:R[k]? = some (.d (ex (.slice none 0 0))))(l:T≠335)(G:0<M)(S:HT hp=some m)(xg:A4R R k (.own m)=some uu)(xe:GZ hp id (.var t uu)=some H)(Z:Gd H (.row T M [])=some vA):AS.le ⟨fr,hp⟩ ⟨fr,vA⟩:=by
 rw[Fe Z,Fp xe];obtain⟨C,xg⟩:=Vs xg;obtain rfl:=FP S;subst xg;have xa:id<hp.length:=Cs r;intro s0 n a w ⟨s,X,g,V⟩;have p:(hp++[Ow.row T M []]).length=hp.length+1:=by simp
 have xd := V.new (GS.Le.refl s) (dst := none) (fun d I => by cases I) (v := .slice none 0 0) (u := .slice none 0 0) (r := .own hp.length) (ow := .row T M []) ⟨YeA _, by simp⟩
  ⟨[],⟨by simp,.inl ⟨by simp,rfl⟩⟩,l,G,λb E=>by simp[DQ]at E,λk C=>by simp at C⟩ λb E=>by cases E
 have xc:∀i o,(hp.set id (.var t (R.set k (.own hp.length)))++[Ow.row T M []])[i]? = some o->(i=id/\o=.var t (R.set k (.own hp.length)))\/(hp++[Ow.row T M []])[i]? = some o:=λi o J=>by
  by_cases e:i=id
  .subst e
   rw[Yav (by rw[Ycg];exact xa),List.getElem?_set_self xa]at J;exact .inl ⟨rfl,(Yag J).symm⟩
  .rw [YaQ,Ycg]at J
   rw[YaQ];by_cases O:i<hp.length
   .rw [Yan O,YcP (λh=>e h.symm)]at J
    rw[Yan O];exact .inr J
   .rw [Yai O]at J
    rw[Yai O];exact .inr J
 have xi:(hp++[Ow.row T M []])[id]? = some (.var t R):=by rw[Yav xa];exact r
 have xh:(hp.set id (.var t (R.set k (.own hp.length)))++[Ow.row T M []]).length=(hp++[Ow.row T M []]).length:=by simp
 have xf:∀i o b,(hp.set id (.var t (R.set k (.own hp.length)))++[Ow.row T M []])[i]? = some o->∀v,OwB s v o b->∃N,(hp++[Ow.row T M []])[i]? = some N/\OwB s v N b:=λi o b J v E=>by
  rcases xc i o J with⟨rfl,rfl⟩ | q
  .exact ⟨_,xi,E⟩
  .exact ⟨o,q,E⟩
 refine⟨s,λi=>if i=hp.length then .slice none 0 0 else X i,g,xd.le,xd.ok,λA c L=>?_,xd.sz,xd.df,λi o J=>?_,λi j o N xb J W b E z=>?_,λi o b J E=>?_⟩
 .rw [xh]
  exact xd.fr A c L
 .rw [xh]
  rcases xc i o J with⟨rfl,rfl⟩ | q
  .obtain ⟨b,f,q1,U,q3,q4,q5,q6,q7⟩:=xd.hp _ _ xi
   refine⟨b,f,q1,U,q3,by simpa using q4,q5,q6,λj c W=>?_⟩;by_cases e:j=k
   .subst e
    rw[List.getElem?_set_self C]at W;cases W;obtain⟨u,p1,p2,p3⟩:=q7 j _ F;refine⟨u,p1,p2,by rw[p];exact YeA _,?_⟩;have p3:u=.slice none 0 0:=p3;rw[p3];simp
   .rw [YcP (λh=>e h.symm)]at W
    exact q7 j c W
  .exact xd.hp i o q
 .obtain ⟨x,q,B⟩:=xf i o b J _ E
  obtain⟨y,K,Y⟩:=xf j N b W _ z;exact xd.sep i j x y xb q K b B Y
 .obtain ⟨x,q,B⟩:=xf i o b J _ E
  exact xd.own i x b q B
end
def HU(P:List Tm):Int:=P.foldl (λd t=>max d (CV t.m 8)) (-1)
variable{vb:List Tm}{n:Nat}
theorem UD(h:n<vb.length):HU (vb.take (n+1))=max (HU (vb.take n)) (CV (Bv vb n).m 8):=Uy (λd t=>max d (CV t.m 8)) (-1) h
theorem Zr(P:List Tm)(M:PIn P 0 65535)(h:P.length<=1000000):Abs prog 241 [BP P] (ex (.int .i64 (HU P))):=by
 refine Ab func241 λw=>?_;rw[ntmps241];refine Go ?_;refine AF (λv c=>∃k,k<=P.length/\v=P.length-k/\c=⟨[(3,.d (ex (.int .i64 (HU (P.take k))))),(6,.d (BP P)),(7,.d (ex (.int .i64 (P.length:Nat)))),(8,.d (ex (.int .i64 (k:Nat))))],[]⟩) ?le ⟨0,by omega,rfl,rfl⟩ ?round
 case le=>exact ZjY
 case round=>
  rintro v _ ⟨k,B,rfl,rfl⟩;by_cases O:k<P.length
  .have A:=M _ (Dz O)
   have q:=UD O;have H:=Ye (Bv P k).m (A.mono ZbG ZbG);refine ZfP ?_;exact Ac (by exact FrLe.cons rfl (AVle.int q.symm)<|Yd<|Yd<|Yd<|FrLe.nil) Zcf
  .exact ZaP
theorem WA(a:Nat->Int)(h:In8 a (-1000000) 1000000):Abs prog 153 [AQ (CE a)] (ex (.int .i64 (CV a 8))):=by
 refine Ab func153 λw=>?_;rw[ntmps153];refine Go ?_;refine AF (λv c=>∃k,k<=8/\v=8-k/\c=⟨[(1,.ptr 0 0),(3,.d (ex (.int .i64 (CV a k)))),(4,.d (ex (.int .i64 (k:Nat))))],[.var 112 ((CE a).map .d)]⟩) ?le ⟨0,by omega,rfl,rfl⟩ ?round
 case le=>exact Ac Zck ZcG
 case round=>
  rintro v _ ⟨k,B,rfl,rfl⟩;by_cases O:k<8
  .have K:=h k O
   have E:=IZ h k ZbG;refine Go ?_;exact Zil
  .obtain rfl:k=8:=by omega
   exact Zfx
theorem A6r(P:List Tm)(M:PIn P 0 65535)(h:P.length<=1000000):Abs prog 78 [BP P] (ex (.int .i64 (HU P))):=by
 refine Ab func78 λw=>?_;rw[ntmps78];refine Go ?_;refine AF (λv c=>∃k,k<=P.length/\v=P.length-k/\c=⟨[(0,.d (BP P)),(3,.d (ex (.int .i64 (HU (P.take k))))),(4,.d (ex (.int .i64 (k:Nat))))],[]⟩) ?le ⟨0,by omega,rfl,rfl⟩ ?round
 case le=>exact Ac ZcV Zcf
 case round=>
  rintro v _ ⟨k,B,rfl,rfl⟩;by_cases O:k<P.length
  .have A:=M _ (Dz O)
   have q:=UD O;have C:=WA (Bv P k).m (A.mono ZbG ZbG);refine ZfP ?_;exact Ac (by exact Yd<|FrLe.cons rfl (AVle.int q.symm)<|Yd<|FrLe.nil) Zcf
  .exact ZaP
theorem A6m(z:Int)(d:-128<=z)(q:z<=127):Abs prog 222 [ex (.int .i8 z)] (ex (.int .i64 (z.natAbs:Nat))):=by
 by_cases u:z<0
 .refine Ab func222 λw=>?_
  rw[ntmps222]
  repeat (first | refine Df rfl rfl ?_;refine⟨_,GB (ao rfl) (Aa rfl) (Aa rfl) ZbG ZbG,?_⟩ | refine Df rfl rfl ?_;refine⟨_,Ta (ao rfl) ZbG ZbG,?_⟩ | apply Ah | apply AWp.region | (refine Df rfl rfl ?_;first | (apply Gk;refine⟨_,AE (ao rfl),?_⟩) | (apply GC;refine⟨_,Bg (ao rfl),?_⟩) | (apply IS;refine⟨_,GW rfl (ao rfl) (ao rfl) ZbR,?_⟩)) | apply AWl.nil | apply Yn | apply BV | apply Dr | (apply Kv;refine Ct ?_))
  exact Zkf
 .refine Ab func222 λw=>?_
  rw[ntmps222]
  repeat (first | refine Df rfl rfl ?_;refine⟨_,GB (ao rfl) (Aa rfl) (Aa rfl) ZbG ZbG,?_⟩ | apply Ah | apply AWp.region | (refine Df rfl rfl ?_;first | (apply Gk;refine⟨_,AE (ao rfl),?_⟩) | (apply GC;refine⟨_,Bg (ao rfl),?_⟩) | (apply IS;refine⟨_,Il rfl (ao rfl) (ao rfl) ZbR,?_⟩)) | apply AWl.nil | apply Yn | apply GX | apply BV | (apply Kv;refine Cf ?_))
  exact Zkf
def ZK(z:Int)(r:Nat->Int):Nat->Int
 |0=>z
 |j+1=>ZK z r j-((r (j+1)).natAbs:Nat)%(ZK z r j+1)
theorem A0s{z:Int}(r:Nat->Int)(h:0<=z):∀j,0<=ZK z r j/\ZK z r j<=z
 |0=>⟨h,YbM _⟩
 |j+1=>by
  have v:=A0s r h j;have q:=YeG ((r (j+1)).natAbs:Int) (show ZK z r j+1≠0 by omega);have A:=Yem ((r (j+1)).natAbs:Int) (show 0<ZK z r j+1 by omega);simp only[ZK];omega
def SC(z:Int)(r:Nat->Int)(n:Nat):Nat->Int:=λj=>if j<n then((r (j+1)).natAbs:Nat)%(ZK z r j+1)else 0
variable{a:Int}
theorem A2m(r:Nat->Int)(h:0<=a)(n:Nat):In8 (SC a r n) 0 a:=λj _=>by
 unfold SC;have v:=A0s r h j;split
 .have q:=YeG ((r (j+1)).natAbs:Int) (show ZK a r j+1≠0 by omega)
  have A:=Yem ((r (j+1)).natAbs:Int) (show 0<ZK a r j+1 by omega);omega
 .omega
theorem A5R(z:Int)(r:Nat->Int)(k:Nat):RA (SC z r k) k (((r (k+1)).natAbs:Nat)%(ZK z r k+1))=SC z r (k+1):=by
 funext j;simp only[RA,SC];rcases Ycm j k with h | h | h
 .rw [Yai ZbG,Yan h,Yan ZbG]
 .subst h;simp
 .rw [Yai ZbG,Yai ZbG,Yai ZbG]
def A0a(z:Int)(n:Nat)(r:Nat->Int):List Tm:=XA ((Int.tmod (r 0) 4:Int):Rat) [⟨1,SC z r n⟩]
def ML(z:Int)(n:Nat)(X:List (Nat->Int)):List Tm:=X.foldl (λa r=>Jg a (A0a z n r)) []
def A2b(X:List (Nat->Int))(n:Nat)(z:Int)(terms:Nat):List Tm:=ML z (min n 4) (X.take (min X.length terms))
theorem A8D(z:Int):-3<=Int.tmod z 4/\Int.tmod z 4<=3:=by
 rcases Int.le_total 0 z with h | h
 .rw [Ycl h];omega
 .have:Int.tmod z 4=-((-z)%4):=by
   rw[<-Ycl ZbG,Int.neg_tmod,Int.neg_neg]
  omega
variable{b T:Nat}{vD:Rat}
theorem A7f(h:PB vb n b a)(Z:RSz vD T):PB (XA vD vb) n (T+b) a:=by
 unfold XA;split
 .exact PB.nil
 .rename_i F
  have:=A4D (t:=⟨vD,λ_=>0⟩) (d0:=0) h F Z λi _=>⟨YbM _,YbM _⟩;rwa [Int.zero_add]at this
variable{vh:Nat->Int}
theorem A5g(h:In8 vh 0 a):PB [⟨1,vh⟩] 1 1 a:=A41 (show(1:Rat)≠0 by decide) (rsz_one) h
where rsz_one:RSz (1:Rat) 1:=Jw (x:=1) ZbG ZbG
theorem A1M(z:Int):RSz ((Int.tmod z 4:Int):Rat) 1:=by
 have:=A8D z;exact Jw ZbG ZbG
theorem A1Z(n:Nat)(r:Nat->Int)(h:0<=a):PB (A0a a n r) 1 2 a:=A7f (A5g (A2m r h n)) (A1M _)
theorem OV{z:Int}{n:Nat}(h:0<=z):∀(X:List (Nat->Int)) (A:List Tm) (k K:Nat),PB A k K z->PB (X.foldl (λa r=>Jg a (A0a z n r)) A) (k+X.length) (K+X.length*3) z
 |[],A,k,K,h=>h
 |r::X,A,k,K,B=>by
  have q:=(B.add (A1Z n r h)).mono (Yah _) (Yah _) (Int.max_le.2 ⟨YbM _,YbM _⟩);have:=OV (n:=n) h X _ _ _ q;exact this.mono ZiB ZiB (YbM _)
theorem A5u(X:List (Nat->Int))(n:Nat)(K:Nat)(h:0<=a):PB (A2b X n a K) K (K*3) a:=by
 have:=OV (n:=min n 4) h (X.take (min X.length K)) [] 0 0 PB.nil;have I:(X.take (min X.length K)).length<=K:=ZgP
 exact this.mono ZbG ZbG (YbM _)
theorem Sd(X:List (Nat->Int))(n:Nat){terms k:Nat}(h:0<=a)(B:k<=terms):PB (ML a n (X.take k)) terms (terms*3) a:=by
 have:=OV (n:=n) h (X.take k) [] 0 0 PB.nil;have I:(X.take k).length<=terms:=ZgP
 exact this.mono ZbG ZbG (YbM _)
variable{e:Type}
theorem A5Q(f:e->(Nat->Int)->e)(b:e){X:List (Nat->Int)}(h:n<X.length):(X.take (n+1)).foldl f b=f ((X.take n).foldl f b) (He X n):=by
 have q:X.take (n+1)=X.take n++[He X n]:=by
  rw[YcT,Yac h,He,Yab,Yac h];rfl
 rw[q,Yev];rfl
def A3M(X:List (Nat->Int)):Prop:=∀r∈X,∀j,j<5->-128<=r j/\r j<=127
theorem A3Q(T:Nat)(X:List (Nat->Int))(n terms:Nat)(z:Int)(W:A3M X)(h:n<=8)(L:terms<=1000)(d:0<=z)(e:z<=1000):Abs prog 126 [AQ [r5D T X],ex (.int .i64 (n:Nat)),ex (.int .i64 z),ex (.int .i64 (terms:Nat))] (BP (A2b X n z terms)):=by
 refine Ab func126 λw=>?_;rw[ntmps126]
 repeat (first | apply Ah | apply AWp.region | (apply A6S;refine Bx ?_) | (apply A8Y;refine Xh (Aa rfl) (Aa rfl) rfl rfl rfl rfl rfl ?_) | (refine Df rfl rfl ?_;(apply GC;refine⟨_,Bg (ao rfl),?_⟩)) | apply AWl.nil | apply Yn | apply AWp.block)
 refine AF (λv c=>∃k,k<=min X.length terms/\v=min X.length terms-k/\c=⟨[(1,.d (ex (.int .i64 (n:Nat)))),(2,.d (ex (.int .i64 z))),(3,.d (ex (.int .i64 (terms:Nat)))),(4,.ptr 0 0),(9,.d (BP (ML z (min n 4) (X.take k)))),(10,.d (ex (.int .i64 (k:Nat))))],[.var 212 ([r5D T X].map .d)]⟩) ?le ⟨0,by omega,rfl,rfl⟩ ?round
 case le=>exact Ac (by repeat (first | exact FrLe.nil | refine Yd ?_ | refine Yp ?_ | refine FrLe.cons rfl (Is rfl (D.le.refl _)) ?_)) ZdO
 case round=>
  rintro v _ ⟨k,B,rfl,rfl⟩;by_cases O:k<min X.length terms
  .have F:k<X.length:=by omega
   have s:k<terms:=by omega
   repeat (first | apply Ah | apply AWp.region | (apply Zx;refine Al ?_) | (apply Th;refine Sf ?_) | (refine Df rfl rfl ?_;first | (apply Gk;refine⟨_,AE (ao rfl),?_⟩) | (apply GC;refine⟨_,Bg (ao rfl),?_⟩) | (apply Rc;refine⟨_,BU (ao rfl) rfl (Aa rfl) rfl rfl,?_⟩) | (apply Im;refine⟨_,Ik (ao rfl) (Aa rfl) rfl (Aa rfl) rfl,?_⟩) | (apply A1o;refine⟨_,Bj rfl (Aa rfl),?_⟩) | (apply IS;refine⟨_,GW rfl (ao rfl) (ao rfl) ZbR,?_⟩) | (apply Ol;refine⟨_,HK (ao rfl) (ao rfl),?_⟩) | (apply Zw;(refine LA (Aa rfl) (Aa rfl) rfl rfl ?_;(repeat ((first | refine⟨_,Az (ao rfl),?_⟩ | refine⟨_,Po rfl,?_⟩);refine⟨_,rfl,?_⟩));refine⟨_,rfl,?_⟩))) | (refine PI rfl rfl rfl rfl rfl ?_;first | (apply Gk;refine⟨_,AE (ao rfl),?_⟩) | (apply IS;refine⟨_,GW rfl (ao rfl) (ao rfl) ZbR,?_⟩)) | apply AWl.nil | apply Yn | apply AWp.block | apply GX | (apply Kv;refine Ct ?_))
   refine AF (λv c=>∃i,i<=min n 4/\v=min n 4-i/\c=⟨[(1,.d (ex (.int .i64 (n:Nat)))),(2,.d (ex (.int .i64 z))),(3,.d (ex (.int .i64 (terms:Nat)))),(4,.ptr 0 0),(9,.d (BP (ML z (min n 4) (X.take k)))),(10,.d (ex (.int .i64 (k:Nat)))),(11,.ptr 1 0),(12,.d (ex (.int .i64 (ZK z (He X k) i)))),(13,.d (ex (.int .i64 (i:Nat))))],[.var 212 ([r5D T X].map .d),.var 112 ((CE (SC z (He X k) i)).map .d)]⟩) ?lei ⟨0,by omega,rfl,rfl⟩ ?roundi
   case lei=>exact Ac (by repeat (first | exact FrLe.nil | refine Yd ?_ | refine Yp ?_)) ZdO
   case roundi=>
    rintro v _ ⟨i,J,rfl,rfl⟩;by_cases y:i<min n 4
    .have I:=A0s (He X k) d i
     have V:=W _ (Yo F) (i+1) ZbG;have Z:RA (SC z (He X k) i) i (((He X k (i+1)).natAbs:Nat)%(ZK z (He X k) i+1)) i=((He X k (i+1)).natAbs:Nat)%(ZK z (He X k) i+1):=Yan rfl;have K:=YeG ((He X k (i+1)).natAbs:Int) (show ZK z (He X k) i+1≠0 by omega);have A:=Yem ((He X k (i+1)).natAbs:Int) (show 0<ZK z (He X k) i+1 by omega)
     repeat (first | refine Df rfl rfl ?_;refine⟨_,Oe (ao rfl) (ao rfl) ZbG,?_⟩ | refine Df rfl rfl ?_;refine⟨_,HL (ao rfl) (Aa rfl) rfl (A4c (show i+1<5 by omega)),?_⟩ | apply Ah | apply AWp.region | (apply Th;refine LD (ao rfl) (ao rfl) rfl (Aa rfl) ZbX (SetAt.mon ZbU) rfl ?_) | (refine Df rfl rfl ?_;first | (apply Gk;refine⟨_,AE (ao rfl),?_⟩) | (apply GC;refine⟨_,Bg (ao rfl),?_⟩) | (apply Rc;first | refine⟨_,BU (ao rfl) rfl (Aa rfl) rfl rfl,?_⟩ | refine⟨_,Mi (ao rfl) rfl (Aa rfl) rfl (Jr ZbU),?_⟩) | (apply Im;refine⟨_,Ik (ao rfl) (Aa rfl) rfl (Aa rfl) rfl,?_⟩) | (apply Om;first | refine⟨_,CD rfl (ao rfl) (Aa rfl) (Aa rfl) rfl ZbU,?_⟩ | refine⟨_,MV (ao rfl) (ao rfl) (Aa rfl) (Aa rfl) ZbU,?_⟩ | refine⟨_,Lw (ao rfl) (ao rfl) (Aa rfl) (Aa rfl) ZbU,?_⟩) | (apply A1p;first | refine⟨_,Ij (ao rfl) (ao rfl) ZbG,?_⟩ | refine⟨_,PA (ao rfl) (ao rfl) ZbG ZbG,?_⟩) | (apply A6I;refine⟨_,Pu (ao rfl) (ao rfl) ZbG ZbG,?_⟩) | (apply A6K;refine⟨_,SY (ao rfl) (ao rfl) ZbG ZbG,?_⟩) | (apply IS;refine⟨_,GW rfl (ao rfl) (ao rfl) ZbR,?_⟩) | (apply Ol;refine⟨_,HK (ao rfl) (ao rfl),?_⟩) | (apply Zv;refine⟨_,BQ (ao rfl) (A6m (He X k (i+1)) V.1 V.2) ZbY,?_⟩)) | (refine PI rfl rfl rfl rfl rfl ?_;first | (apply Gk;refine⟨_,AE (ao rfl),?_⟩) | (apply IS;refine⟨_,GW rfl (ao rfl) (ao rfl) ZbR,?_⟩)) | apply AWl.nil | apply Yn | apply AWp.block | apply GX | apply Bi | (apply Kv;refine Ct ?_))
     refine Ai (min n 4-(i+1)) ZbG ⟨i+1,by omega,rfl,rfl⟩ ?_;exact Ac (by repeat (first | exact FrLe.nil | refine Yd ?_ | refine Yp ?_ | refine FrLe.cons rfl (AVle.int (by rw[Z];rfl)) ?_)) (by repeat (first | exact HpLe.nil | refine HpLe.cons (OwLe.varD (by rw[A5R])) ?_ | apply Yv))
    .obtain rfl:i=min n 4:=by omega
     have t:=Yo F;have N:=W _ t 0 ZbG;have Y:=A8D (He X k 0);have G:-3<=Int.tmod (X.getD k default 0) 4/\Int.tmod (X.getD k default 0) 4<=3:=Y;have E:=Sd X (min n 4) (terms:=terms) d (YbV s);have M:=E.len;have L:=A1Z (min n 4) (He X k) d;have C:=L.len;have q:=A5g (A2m (He X k) d (min n 4));have u:(He X k 0).tmod 4=IntKind.i64.wrap ((He X k 0).tmod 4):=(IntWalk.i64_in _ ZbG).symm;have P:ML z (min n 4) (X.take (k+1))=Jg (ML z (min n 4) (X.take k)) (A0a z (min n 4) (He X k)):=A5Q (λa r=>Jg a (A0a z (min n 4) r)) [] F;rcases(show n<=4\/4<n by omega)with Q | Q
     all_goals
      repeat (first | apply Ah | apply AWp.region | (refine Df rfl rfl ?_;first | (apply Gk;refine⟨_,AE (ao rfl),?_⟩) | (apply IS;first | refine⟨_,GW rfl (ao rfl) (ao rfl) ZbR,?_⟩ | refine⟨_,Il rfl (ao rfl) (ao rfl) ZbR,?_⟩) | (apply Ol;first | refine⟨_,HK (ao rfl) (ao rfl),?_⟩ | refine⟨_,JX (ao rfl) (ao rfl),?_⟩)) | refine To rfl rfl rfl rfl rfl ?_ | (refine PI rfl rfl rfl rfl rfl ?_;first | (apply Gk;refine⟨_,AE (ao rfl),?_⟩) | (apply IS;refine⟨_,Il rfl (ao rfl) (ao rfl) ZbR,?_⟩)) | apply AWl.nil | apply Yn | apply Cg | apply BD | apply BI | apply BS | (apply Kv;refine Cf ?_))
      refine Dy 16 ?_
      repeat (first | refine⟨_,rfl,?_⟩ | (apply WY;(refine Xq (AE (ah rfl)) ?_)) | (apply Xa;first | (refine Xq (Lv (ah rfl) rfl (Aa rfl) rfl rfl) ?_) | (refine Xq (BU (ah rfl) rfl (Aa rfl) rfl rfl) ?_) | (refine Xq (Gi (ah rfl) (Aa rfl) rfl rfl) ?_)) | (apply Ku;(refine Xq (Ik (ah rfl) (Aa rfl) rfl (Aa rfl) rfl) ?_)) | (apply Kt;first | (refine Xq (CD rfl (ah rfl) (Aa rfl) (Aa rfl) rfl ZbU) ?_) | (refine Xq (WS (ah rfl) (ah rfl) (Aa rfl) (Aa rfl) ZbL ZbL rfl) ?_)) | (apply A1r;(refine Xq (QU (ah rfl) (ah rfl) ZbL) ?_)) | (apply PH;(refine Xq (Cc (ah rfl) (Aa rfl) (Aa rfl) rfl rfl rfl rfl rfl) ?_)) | (apply Xb;(refine Xq (GB (ah rfl) (Aa rfl) (Aa rfl) ZbG ZbG) ?_)) | (apply Tf;(refine Hq rfl ?_;refine AI (Aa rfl) rfl rfl rfl ?_;(repeat ((first | refine⟨_,Az (ah rfl),?_⟩ | refine⟨_,Po rfl,?_⟩);refine⟨_,rfl,?_⟩));refine⟨_,rfl,?_⟩;refine⟨_,rfl,?_⟩)) | (apply Te;first | (refine Xq (BQ (ah rfl) (EW ((He X k 0).tmod 4) ZbG ZbG) ZbY) ?_) | (refine Xq (BQ (ah rfl) (EW 1 ZbG ZbG) ZbY) ?_) | (refine Xq (BQ (ah rfl) (A0S ((Int.tmod (He X k 0) 4:Int):Rat) [⟨1,SC z (He X k) (min n 4)⟩] 1 1 (A1M _) q.sz (q.ex.mono (YbM _) ZbG) ZbV ZbG) ZbY) ?_) | (refine Xq (BQ (ah rfl) (A6t (ML z (min n 4) (X.take k)) (A0a z (min n 4) (He X k)) (terms*3) 2 E.sz L.sz ZbG ZbG) ZbY) ?_)))
      repeat (first | apply AWp.region | (refine Df rfl rfl ?_;first | (apply Gk;refine⟨_,AE (ao rfl),?_⟩) | (apply GC;refine⟨_,Bg (ao rfl),?_⟩) | (apply A1p;refine⟨_,Ij (ao rfl) (ao rfl) ZbG,?_⟩)) | apply AWl.nil | apply Yn | apply Bi)
      refine Ai (min X.length terms-(k+1)) ZbG ⟨k+1,by omega,rfl,rfl⟩ ?_;exact Ac (by repeat (first | exact FrLe.nil | refine Yd ?_ | refine Yp ?_ | refine FrLe.cons rfl (AVle.le (Tk P.symm)) ?_)) ZdO
  .obtain rfl:k=min X.length terms:=by omega
   rcases(show X.length<=terms\/terms<X.length by omega)with L | L
   all_goals
    repeat (first | apply Ah | apply AWp.region | (refine Df rfl rfl ?_;first | (apply Gk;refine⟨_,AE (ao rfl),?_⟩) | (apply GC;refine⟨_,Bg (ao rfl),?_⟩) | (apply Rc;refine⟨_,BU (ao rfl) rfl (Aa rfl) rfl rfl,?_⟩) | (apply Im;refine⟨_,Ik (ao rfl) (Aa rfl) rfl (Aa rfl) rfl,?_⟩) | (apply A1o;refine⟨_,Bj rfl (Aa rfl),?_⟩) | (apply IS;first | refine⟨_,GW rfl (ao rfl) (ao rfl) ZbR,?_⟩ | refine⟨_,Il rfl (ao rfl) (ao rfl) ZbR,?_⟩) | (apply Ol;first | refine⟨_,HK (ao rfl) (ao rfl),?_⟩ | refine⟨_,JX (ao rfl) (ao rfl),?_⟩)) | refine To rfl rfl rfl rfl rfl ?_ | (refine PI rfl rfl rfl rfl rfl ?_;first | (apply Gk;refine⟨_,AE (ao rfl),?_⟩) | (apply IS;refine⟨_,Il rfl (ao rfl) (ao rfl) ZbR,?_⟩)) | apply AWl.nil | apply Yn | apply Cg | apply BV | apply BD | apply BI | apply BS | (apply Kv;refine Cf ?_))
    exact Yf
theorem A9z{z:Int}(d:-100000<=z)(q:z<=100000):(Aw z.natAbs).length<=1:=JP Zet
def gdD(t:Bool)(x:D):D:=⟨λs v=>(t=true->x.rel s v)/\(t=false->v=undef),λh F=>⟨λL=>x.st (h.1 L) F,h.2⟩⟩
variable{o:Bool}{r:D}
theorem A5O(h:o=true):D.le r (gdD o r):=λ_ _ q=>⟨λ_=>q,(λe=>by rw[h]at e;cases e)⟩
theorem A7I(h:o=false):D.le (ex undef) (gdD o r):=λ_ _ q=>⟨(λe=>by rw[h]at e;cases e),λ_=>q⟩
def Ovr(t:Bool)(e:List (Nat×AV))(l:List (Nat×AV)):Prop:=∀p∈l,∃x,p.2=.d x/\Ch e p.1=some (.d (gdD t x))
variable{vc:List (Nat×AV)}
theorem Ovr.nil{t:Bool}:Ovr t vc []:=λp G=>by cases G
theorem Ovr.cons{t:Bool}{e l:List (Nat×AV)}{u:Nat}{x:D}(h:Ch e u=some (.d (gdD t x)))(Z:Ovr t e l):Ovr t e ((u,.d x)::l):=λp G=>by
 rcases YaM.1 G with rfl | G
 .exact ⟨x,rfl,h⟩
 .exact Z p G
variable{f:AV}{uz:List (Nat×AV)}
theorem Yh(h:Ch (vc++uz) n=some f):(∃p∈vc,p.1=n/\p.2=f)\/Ch uz n=some f:=by
 induction vc with
 |nil=>exact .inr h
 |cons p vc v=>
  rw[Ycz,Da]at h;split at h
  .rename_i e
   exact .inl ⟨p,Ybp,e,Yag h⟩
  .rcases v h with⟨q,k,e⟩ | h
   .exact .inl ⟨q,Ybo _ k,e⟩
   .exact .inr h
variable{vj:Act}{s:GS}{H:List Ow}{vi:Nat->Value}
theorem Ovr.sti{s0:An}(h:Ovr o vc uz)(L:o=true)(hst:StI s0 n ⟨vc,H⟩ vj s vi):StI s0 n ⟨uz++vc,H⟩ vj s vi:=⟨hst.le,hst.ok,λu I S=>by
 rcases Yh S with⟨p,q,b,y⟩ | S
 .obtain ⟨x,A,Y⟩:=h p q
  rw[<-y,A];rw[b]at Y;exact(hst.fr u _ Y).1 L
 .exact hst.fr u I S,hst.sz,hst.df,hst.hp,hst.sep,hst.own⟩
theorem Ovr.back(h:Ovr o vc uz)(L:o=true):AS.le ⟨(n,.d r)::(uz++vc),H⟩ ⟨(n,.d (gdD o r))::vc,H⟩:=λB q a w ⟨s,X,c,P⟩=>⟨s,X,c,⟨P.le,P.ok,λu E S=>by
 rw[Da]at S;split at S
 .rename_i e
  cases S;have A:=P.fr u (.d r) (by show Ch ((n,.d r)::(uz++vc)) u=_;rw[Da,Yan e]);exact A5O L _ _ A
 .rename_i e
  have G:∀uz:List (Nat×AV),Ch (uz++vc) u≠none:=λuz=>by
   induction uz with
   |nil=>rw[Ycs,S];exact λh=>by cases h
   |cons p uz v=>
    rw[Ycz,Da];split
    .exact λh=>by cases h
    .exact v
  cases I:Ch (uz++vc) u with
  |none=>exact absurd I (G uz)
  |some k=>
   have A:=P.fr u k (by show Ch ((n,.d r)::(uz++vc)) u=_;rw[Da,Yai e,I]);rcases Yh I with⟨p,C,b,y⟩ | I
   .obtain ⟨x,F,Y⟩:=h p C
    rw[b,S]at Y;cases Y;rw[<-y,F]at A;exact A5O L _ _ A
   .rw [S]at I
    cases I;exact A,P.sz,P.df,P.hp,P.sep,P.own⟩⟩
section
variable {P:Program} {s0:An} {n:Nat} {ops:Array Oper} {Q:Exit->AS->Prop} {rest:List Oper} {fr:List (Nat×AV)} {hp:List Ow} {ty:TypeId} {ps:String} {af:Array Edge}
variable{ui:Op}
theorem Gq{d:Nat}{q t g:Bool}(l:List (Nat×AV))(B:g=(t==q))(M:Ovr g fr l)(N:(ops[b]?).bind (·.dst)=some T)(I:Ch fr T=some (.d (ex (.bool t))))(J:Nat.blt T n=true)(Z:BO ui=true)(e:Nat.blt d n=true)(k:g=true->Quiet P hp ⟨some d,ui,ty,ps,af,some (b,q)⟩ (AS.arg ⟨l++fr,hp⟩) (.d r))(h:AWl P s0 n ops Q rest ⟨(d,.d (gdD g r))::fr,hp⟩):AWl P s0 n ops Q (⟨some d,ui,ty,ps,af,some (b,q)⟩::rest) ⟨fr,hp⟩:=by
 cases W:g with
 |true=>
  have L:t=q:=by rw[W]at B;exact(Ycw.1 B.symm)
  subst L;exact ZE (o:=⟨some d,ui,ty,ps,af,some (b,t)⟩) rfl N I (λs X a A K F=>RK (o:=⟨some d,ui,ty,ps,af,some (b,t)⟩) (n:=n) (σ:=⟨l++fr,hp⟩) Z (show Wh (some d) n=true from e) (k W) (Bk (M.back W) h) s X a (M.sti W A) K F) (by simpa[Ybh]using J)
 |false=>
  have E:isB (.bool t) q=false:=by
   rw[W]at B;exact B.symm
  refine To N I E J e (Bk ?_ h)
  exact λs0 n a w ⟨s,X,c,A⟩=>⟨s,X,c,⟨A.le,A.ok,λu C S=>by
   rw[Da]at S;split at S
   .rename_i G
    cases S;exact A7I W _ _ (A.fr u (.d (ex undef)) (by show Ch ((d,.d (ex undef))::fr) u=_;rw[Da,Yan G]))
   .rename_i G
    exact A.fr u C (by show Ch ((d,.d (ex undef))::fr) u=_;rw[Da,Yai G];exact S),A.sz,A.df,A.hp,A.sep,A.own⟩⟩
theorem EF{d:Nat}(k:o=true->Quiet P hp ⟨some d,ui,ty,ps,af,some (b,true)⟩ (AS.arg ⟨[]++fr,hp⟩) (.d r))(h:AWl P s0 n ops Q rest ⟨(d,.d (gdD o r))::fr,hp⟩)(N:(ops[b]?).bind (·.dst)=some T:=by exact rfl)(I:Ch fr T=some (.d (ex (.bool o))):=by exact rfl)(A:Nat.blt T n=true:=by exact rfl)(Z:BO ui=true:=by exact rfl)(e:Nat.blt d n=true:=by exact rfl):AWl P s0 n ops Q (⟨some d,ui,ty,ps,af,some (b,true)⟩::rest) ⟨fr,hp⟩:=Gq _ ZdQ Ovr.nil N I A Z e k h
variable{vx:D}
theorem CF{d:Nat}(A:Nat)(B:Ch fr A=some (.d (gdD o vx)))(k:o=true->Quiet P hp ⟨some d,ui,ty,ps,af,some (b,true)⟩ (AS.arg ⟨[(A,.d vx)]++fr,hp⟩) (.d r))(h:AWl P s0 n ops Q rest ⟨(d,.d (gdD o r))::fr,hp⟩)(N:(ops[b]?).bind (·.dst)=some T:=by exact rfl)(I:Ch fr T=some (.d (ex (.bool o))):=by exact rfl)(q:Nat.blt T n=true:=by exact rfl)(Z:BO ui=true:=by exact rfl)(e:Nat.blt d n=true:=by exact rfl):AWl P s0 n ops Q (⟨some d,ui,ty,ps,af,some (b,true)⟩::rest) ⟨fr,hp⟩:=Gq _ ZdQ (Ovr.cons B Ovr.nil) N I q Z e k h
variable{up:D}
theorem YX{d:Nat}(A:Nat)(C:Ch fr A=some (.d (gdD o vx)))(B:Nat)(l:Ch fr B=some (.d (gdD o up)))(k:o=true->Quiet P hp ⟨some d,ui,ty,ps,af,some (b,true)⟩ (AS.arg ⟨[(A,.d vx),(B,.d up)]++fr,hp⟩) (.d r))(h:AWl P s0 n ops Q rest ⟨(d,.d (gdD o r))::fr,hp⟩)(N:(ops[b]?).bind (·.dst)=some T:=by exact rfl)(I:Ch fr T=some (.d (ex (.bool o))):=by exact rfl)(q:Nat.blt T n=true:=by exact rfl)(Z:BO ui=true:=by exact rfl)(e:Nat.blt d n=true:=by exact rfl):AWl P s0 n ops Q (⟨some d,ui,ty,ps,af,some (b,true)⟩::rest) ⟨fr,hp⟩:=Gq _ ZdQ (Ovr.cons C (Ovr.cons l Ovr.nil)) N I q Z e k h
theorem Wu4{d:Nat}{q U X m:D}(A:Nat)(E:Ch fr A=some (.d (gdD o q)))(C:Nat)(l:Ch fr C=some (.d (gdD o U)))(F:Nat)(p:Ch fr F=some (.d (gdD o X)))(G:Nat)(w:Ch fr G=some (.d (gdD o m)))(k:o=true->Quiet P hp ⟨some d,ui,ty,ps,af,some (b,true)⟩ (AS.arg ⟨[(A,.d q),(C,.d U),(F,.d X),(G,.d m)]++fr,hp⟩) (.d r))(h:AWl P s0 n ops Q rest ⟨(d,.d (gdD o r))::fr,hp⟩)(N:(ops[b]?).bind (·.dst)=some T:=by exact rfl)(I:Ch fr T=some (.d (ex (.bool o))):=by exact rfl)(B:Nat.blt T n=true:=by exact rfl)(Z:BO ui=true:=by exact rfl)(e:Nat.blt d n=true:=by exact rfl):AWl P s0 n ops Q (⟨some d,ui,ty,ps,af,some (b,true)⟩::rest) ⟨fr,hp⟩:=Gq _ ZdQ (Ovr.cons E (Ovr.cons l (Ovr.cons p (Ovr.cons w Ovr.nil)))) N I B Z e k h
theorem Wv0{d:Nat}(k:(!o)=true->Quiet P hp ⟨some d,ui,ty,ps,af,some (b,false)⟩ (AS.arg ⟨[]++fr,hp⟩) (.d r))(h:AWl P s0 n ops Q rest ⟨(d,.d (gdD (!o) r))::fr,hp⟩)(N:(ops[b]?).bind (·.dst)=some T:=by exact rfl)(I:Ch fr T=some (.d (ex (.bool o))):=by exact rfl)(A:Nat.blt T n=true:=by exact rfl)(Z:BO ui=true:=by exact rfl)(e:Nat.blt d n=true:=by exact rfl):AWl P s0 n ops Q (⟨some d,ui,ty,ps,af,some (b,false)⟩::rest) ⟨fr,hp⟩:=Gq _ ZdQ Ovr.nil N I A Z e k h
theorem Wv1{d:Nat}(A:Nat)(B:Ch fr A=some (.d (gdD (!o) vx)))(k:(!o)=true->Quiet P hp ⟨some d,ui,ty,ps,af,some (b,false)⟩ (AS.arg ⟨[(A,.d vx)]++fr,hp⟩) (.d r))(h:AWl P s0 n ops Q rest ⟨(d,.d (gdD (!o) r))::fr,hp⟩)(N:(ops[b]?).bind (·.dst)=some T:=by exact rfl)(I:Ch fr T=some (.d (ex (.bool o))):=by exact rfl)(q:Nat.blt T n=true:=by exact rfl)(Z:BO ui=true:=by exact rfl)(e:Nat.blt d n=true:=by exact rfl):AWl P s0 n ops Q (⟨some d,ui,ty,ps,af,some (b,false)⟩::rest) ⟨fr,hp⟩:=Gq _ ZdQ (Ovr.cons B Ovr.nil) N I q Z e k h
theorem Wv2{d:Nat}(A:Nat)(C:Ch fr A=some (.d (gdD (!o) vx)))(B:Nat)(l:Ch fr B=some (.d (gdD (!o) up)))(k:(!o)=true->Quiet P hp ⟨some d,ui,ty,ps,af,some (b,false)⟩ (AS.arg ⟨[(A,.d vx),(B,.d up)]++fr,hp⟩) (.d r))(h:AWl P s0 n ops Q rest ⟨(d,.d (gdD (!o) r))::fr,hp⟩)(N:(ops[b]?).bind (·.dst)=some T:=by exact rfl)(I:Ch fr T=some (.d (ex (.bool o))):=by exact rfl)(q:Nat.blt T n=true:=by exact rfl)(Z:BO ui=true:=by exact rfl)(e:Nat.blt d n=true:=by exact rfl):AWl P s0 n ops Q (⟨some d,ui,ty,ps,af,some (b,false)⟩::rest) ⟨fr,hp⟩:=Gq _ ZdQ (Ovr.cons C (Ovr.cons l Ovr.nil)) N I q Z e k h
end
section
variable {P:Program} {hp:List Ow} {arg:Operand->AV} {dd:Option Tmp} {ty:TypeId} {ps:String} {af:Array Edge} {gd:Option (Nat×Bool)}
variable{um:Bool}{x y vS:Operand}
theorem Og(C:arg y=.d (gdD o (ex (.bool um))))(N:arg vS=.d (ex (.bool false)))(F:arg x=.d (ex (.bool o))):Quiet P hp ⟨dd,.pick x y vS,ty,ps,af,gd⟩ arg (.d (ex (.bool (o&&um)))):=by
 cases o with
 |false=>exact Qi (o:=⟨dd,.pick x y vS,ty,ps,af,gd⟩) rfl N F
 |true=>
  refine⟨λbase s X i E z Z h=>?_⟩;have q:=h x ZcW;have A:=h y ZcW;rw[F]at q;rw[C]at A;have b:i x=.bool true:=q;have B:i y=.bool um:=A.1 rfl;exact Cd (v:=i y) (by simp[execOp,b,asBool]) ⟨GS.Le.refl s,by rw[B];rfl⟩
theorem Of(C:arg vS=.d (gdD (!o) (ex (.bool um))))(N:arg y=.d (ex (.bool true)))(F:arg x=.d (ex (.bool o))):Quiet P hp ⟨dd,.pick x y vS,ty,ps,af,gd⟩ arg (.d (ex (.bool (o||um)))):=by
 cases o with
 |true=>exact Qh (o:=⟨dd,.pick x y vS,ty,ps,af,gd⟩) rfl N F
 |false=>
  refine⟨λbase s X i E z Z h=>?_⟩;have q:=h x ZcW;have A:=h vS ZcW;rw[F]at q;rw[C]at A;have b:i x=.bool false:=q;have B:i vS=.bool um:=A.1 rfl;exact Cd (v:=i vS) (by simp[execOp,b,asBool]) ⟨GS.Le.refl s,by rw[B];rfl⟩
theorem CO(C:arg y=.d (gdD o (ex (.bool um))):=by first | exact ao rfl | exact ah rfl)(N:arg vS=.d (ex (.bool false)):=by first | exact ao rfl | exact ah rfl)(F:arg x=.d (ex (.bool o)):=by first | exact ao rfl | exact ah rfl):Quiet P hp ⟨dd,.pick x y vS,ty,ps,af,gd⟩ arg (.d (ex (.bool (o&&um)))):=Og C N F
theorem NT(C:arg vS=.d (gdD (!o) (ex (.bool um))):=by first | exact ao rfl | exact ah rfl)(N:arg y=.d (ex (.bool true)):=by first | exact ao rfl | exact ah rfl)(F:arg x=.d (ex (.bool o)):=by first | exact ao rfl | exact ah rfl):Quiet P hp ⟨dd,.pick x y vS,ty,ps,af,gd⟩ arg (.d (ex (.bool (o||um)))):=Of C N F
end
structure CutS{ι:Type}(f:ι->AS)(p:ι->Prop)(Q:Exit->AS->Prop)(e:Exit)(σ:AS):Prop where
 h:(e=.normal/\∃i,p i/\AS.le σ (f i))\/(e≠.normal/\Q e σ)
variable{ur:e->Prop}
theorem CutS.normal{f:e->AS}{Q:Exit->AS->Prop}{σ:AS}(i:e)(G:ur i)(I:AS.le σ (f i)):CutS f ur Q .normal σ:=⟨.inl ⟨rfl,i,G,I⟩⟩
variable{vf:AS}
theorem CutS.ret{f:e->AS}{p:e->Prop}{Q:Exit->AS->Prop}(h:Q .ret vf):CutS f p Q .ret vf:=⟨.inr ⟨by simp,h⟩⟩
variable{vp uc:Code}{vl:Exit->AS->Prop}{P:Program}
theorem Tp{s0:An}(f:e->AS)(p:e->Prop)(run:AWp P s0 n vp (CutS f p vl) vf)(k:∀i,p i->AWp P s0 n uc vl (f i)):AWp P s0 n vp (AThen (AWp P s0 n uc vl) vl) vf:=⟨λa w Z=>wp_mono (run.run a w Z) λq C M ⟨E,⟨A⟩,B⟩=>by
 rcases A with⟨rfl,i,J,I⟩ | ⟨hne,hQ⟩
 .exact ⟨E,⟨DV I (k i J)⟩,B⟩
 .refine ⟨E,?_,B⟩
  cases q with
  |normal=>exact absurd rfl hne
  |ret=>exact Dr hQ
  |exit i=>exact BD hQ
  |_=>exact⟨hQ⟩⟩
theorem AWp.cutB{s0:An}(id:Nat)(f:e->AS)(p:e->Prop)(run:AWp P s0 n (.block id vp) (CutS f p vl) vf)(k:∀i,p i->AWp P s0 n uc vl (f i)):AWp P s0 n (.seq (.block id vp) uc) vl vf:=Ah (Tp f p run k)
theorem ZD{s0:An}(id:Nat)(f:e->AS)(p:e->Prop)(run:AWp P s0 n (.block id vp) (CutS f p vl) vf)(k:∀i,p i->AWp P s0 n uc vl (f i)):AWp P s0 n (.block id vp) (AThen (AWp P s0 n uc vl) vl) vf:=Tp f p run k
def CellsLe(G:List Ow)(m:Nat):List AV->List AV->Prop
 |[],[]=>True
 |x::l,y::r=>AVle G m x y/\CellsLe G m l r
 |_,_=>False
theorem CellsLe.nil{hp:List Ow}{m:Nat}:CellsLe hp m [] []:=trivial
theorem CellsLe.cons{m:Nat}{x y:AV}{l r:List AV}(h:AVle H m x y)(Z:CellsLe H m l r):CellsLe H m (x::l) (y::r):=⟨h,Z⟩
theorem CellsLe.get{G:List Ow}{m:Nat}:∀{l r:List AV},CellsLe G m l r->l.length=r.length/\∀(k:Nat) y,r[k]? = some y->∃x,l[k]? = some x/\AVle G m x y
 |[],[],_=>⟨rfl,λk y h=>by cases h⟩
 |[],_::_,h=>h.elim
 |_::_,[],h=>h.elim
 |x::l,y::r,⟨q,A⟩=>by
  obtain⟨K,Y⟩:=CellsLe.get A;refine⟨by simp[K],λk z u=>?_⟩
  cases k with
  |zero=>cases u;exact⟨x,rfl,q⟩
  |succ k=>exact Y k z (by simpa using u)
theorem OwLe.cells{m T:Nat}{c k:List AV}(h:CellsLe H m c k):OwLe H m (.var T c) (.var T k):=OwLe.var h.get.1 h.get.2
def DsLe:List D->List D->Prop
 |[],[]=>True
 |x::l,y::r=>D.le x y/\DsLe l r
 |_,_=>False
theorem DsLe.nil:DsLe [] []:=trivial
theorem DsLe.cons{x y:D}{l r:List D}(h:D.le x y)(Z:DsLe l r):DsLe (x::l) (y::r):=⟨h,Z⟩
theorem DsLe.get:∀{l r:List D},DsLe l r->l.length=r.length/\∀k,k<l.length->D.le (DM l k) (DM r k)
 |[],[],_=>⟨rfl,λk h=>absurd h ZbV⟩
 |[],_::_,h=>h.elim
 |_::_,[],h=>h.elim
 |x::l,y::r,⟨q,A⟩=>by
  obtain⟨K,Y⟩:=DsLe.get A;refine⟨by simp[K],λk B=>?_⟩
  cases k with
  |zero=>exact q
  |succ k=>exact Y k Zdn
theorem Ce {l r : List D} (h : DsLe l r) : D.le (AQ l) (AQ r) := fun s v ⟨f, q, A, K⟩ => ⟨f, q, by rw [A, h.get.1], fun k B => by
 rw[<-h.get.1]at B;obtain⟨u,Y,n,C⟩:=K k B;exact⟨u,Y,n,h.get.2 k B s u C⟩⟩
variable{x y:Operand}
theorem A3k (a b : Nat → Int) (w : World) : (do eqGuard .eql 36 x y (.agg (c8 a)) (.agg (c8 b)); binOp .eql 36 (.agg (c8 a)) (.agg (c8 b)) : Sem Value).run prog w = .ok (.bool (LU a b)) w := by
 exact ZgJ
theorem A38 (a b : Nat → Int) (w : World) : (do eqGuard .neq 36 x y (.agg (c8 a)) (.agg (c8 b)); binOp .neq 36 (.agg (c8 a)) (.agg (c8 b)) : Sem Value).run prog w = .ok (.bool (!LU a b)) w := by
 exact ZgJ
section
variable {hp:List Ow} {arg:Operand->AV} {dd:Option Tmp} {ty:TypeId} {ps:String} {af:Array Edge} {gd:Option (Nat×Bool)}
variable{t:TypeId}
theorem A6z{a b:Nat->Int}(C:arg x=.d (AQ (CE a)))(N:arg y=.d (AQ (CE b))):Quiet prog hp ⟨dd,.binOp .eql 36 x y t,ty,ps,af,gd⟩ arg (.d (ex (.bool (LU a b)))):=
 Hs rfl C N (λ_ _ h=>CY h) (λ_ _ h=>CY h) λw=>A3k a b w
variable{vC:Nat->Int}
theorem Zn(C:arg x=.d (AQ (CE vh)))(N:arg y=.d (AQ (CE vC))):Quiet prog hp ⟨dd,.binOp .neq 36 x y t,ty,ps,af,gd⟩ arg (.d (ex (.bool (!LU vh vC)))):=
 Hs rfl C N (λ_ _ h=>CY h) (λ_ _ h=>CY h) λw=>A38 vh vC w
end
def EqTo(A B:List (Nat->Int))(k:Nat):Prop:=∀j,j<k->LU (A.getD j default) (B.getD j default)=true
def NO(A B:List (Nat->Int)):Prop:=A.length=B.length/\EqTo A B A.length
noncomputable instance (A B:List (Nat->Int)):Decidable (NO A B):=Classical.propDecidable _
theorem EqTo.succ{A B:List (Nat->Int)}(h:EqTo A B n)(e:LU (A.getD n default) (B.getD n default)=true):EqTo A B (n+1):=λj W=>by
 rcases YaD j n with V | V
 .exact h j V
 .obtain rfl:j=n:=by omega
  exact e
theorem A0W(A B:List (Nat->Int))(l:A.length<=1000000)(E:B.length<=1000000):Abs prog 18 [Du A,Du B] (ex (.bool (decide (NO A B)))):=by
 refine Ab func18 λw=>?_;rw[ntmps18];by_cases I:A.length=B.length
 .refine Go ?_
  refine AF (λv c=>∃k,k<=A.length/\v=A.length-k/\EqTo A B k/\c=⟨[(0,.d (Du A)),(1,.d (Du B)),(5,.d (ex (.int .i64 (k:Nat))))],[]⟩) ?le ⟨0,by omega,rfl,λ_ h=>absurd h ZbG,rfl⟩ ?round
  case le=>exact Ac ZcV Zcf
  case round=>
   rintro v _ ⟨k,q,rfl,a,rfl⟩;by_cases O:k<A.length
   .have C:k<B.length:=by omega
    by_cases g:LU (A.getD k default) (B.getD k default)=true
    .refine Go ?_
     refine Dy 9 ?_;refine Dw ?_;refine⟨_,HStep.q rfl (Zn rfl rfl),?_⟩;refine Dw ?_;rw[g];refine Go ?_;refine Ai (A.length-(k+1)) ZbG ⟨k+1,by omega,rfl,a.succ g,rfl⟩ ?_;exact Ac ZcV Zcf
    .refine Go ?_
     refine Dy 9 ?_;refine Dw ?_;refine⟨_,HStep.q rfl (Zn rfl rfl),?_⟩;refine Dw ?_;rw[YdH.2 g];refine Go ?_;exact AA (Am (ResV.tmp rfl rfl) (Ae (by rw[Yad λh:NO A B=>g (h.2 k O)])))
   .obtain rfl:k=A.length:=by omega
    refine Go ?_;have K:NO A B:=⟨I,a⟩;exact AA (Am (ResV.tmp rfl rfl) (Ae (by rw[Yak K])))
 .refine Go ?_
  exact AA (Am (ResV.tmp rfl rfl) (Ae (by rw[Yad λh:NO A B=>I h.1])))
structure RQ where
 b:Bool
 l:List Nat
 b':Bool
 l':List Nat
instance:Inhabited RQ:=⟨⟨false,[],false,[]⟩⟩
def BA(n:Nat):List Nat:=if n<128 then[n]else(n%128+128)::BA (n/128)
termination_by n
decreasing_by omega
def u64(z:Int):Nat:=(z%18446744073709551616).toNat
def TI(z:Int):Nat:=if z<0 then 2*(-(z+1)).toNat+1 else 2*z.toNat
def Bm(z:Int):List Nat:=BA (TI z)
def CA(w:Nat):List Nat:=[w/16777216%256,w/65536%256,w/256%256,w%256]
def Hp(b:Bool)(l:List Nat):List Nat:=BA (2*l.length+(if b=true then 1 else 0))++l.flatMap CA
def CG(q:RQ):List Nat:=Hp q.b q.l++Hp q.b' q.l'
def Jx{F:Type}(e:F->List Nat)(f:Nat->F):List Nat:=(List.range 8).flatMap λi=>e (f i)
def Ef(t:RTm):List Nat:=(Hp t.b t.l++Hp t.b' t.l')++Jx (λz=>BA (u64 z)) t.m
def Bt{F:Type}(e:F->List Nat)(l:List F):List Nat:=BA l.length++l.flatMap e
abbrev Cp:List RTm->List Nat:=Bt Ef
abbrev Bf:List (List RTm)->List Nat:=Bt Cp
abbrev BJ:List (List (List RTm))->List Nat:=Bt Bf
abbrev Fy:(Nat->Int)->List Nat:=Jx Bm
abbrev BZ:List (Nat->Int)->List Nat:=Bt Fy
abbrev GF:List RQ->List Nat:=Bt CG
def GO(a:RQ×RQ):List Nat:=CG a.1++CG a.2
abbrev GR:(Nat->RQ×RQ)->List Nat:=Jx GO
abbrev Fb:List (Nat->RQ×RQ)->List Nat:=Bt GR
abbrev Qp:(Nat->RQ)->List Nat:=Jx CG
def Kz(s:RQ×List RTm):List Nat:=CG s.1++Cp s.2
structure Cor where
 n:Int
 e:List (List RTm)
 f:List (List RTm)
structure Clm where
 kind:Int
 p:List RTm
 n:Int
 d:Int
 r:Int
 o:List (Nat->Int)
 l:List (List RTm)
 s:List Int
 b:List (Nat->RQ×RQ)
structure Rsl where
 l:Nat->Int
 q:List RQ
 r:Nat->List RQ
structure Crt where
 n:Int
 cof:List (List RTm)
 g:List (List RTm)
 o:List (Nat->Int)
 c:List (List (List RTm))
 q:List (List (List RTm))
 s:List (List (List RTm))
 r:Rsl
 a:List (RQ×RQ)
 sq:List (RQ×List RTm)
 x:List (Nat->RQ)
 b:List (Nat->RQ×RQ)
structure Fct where
 k:Cor
 c:Clm
 e:Crt
def FV(k:Cor):List Nat:=(Bm k.n++Bf k.e)++Bf k.f
def IN(c:Clm):List Nat:=Bm c.kind++Cp c.p++Bm c.n++Bm c.d++Bm c.r++BZ c.o++Bf c.l++Bt Bm c.s++Fb c.b
def Kg(r:Rsl):List Nat:=Fy r.l++GF r.q++Jx GF r.r
def KC(e:Crt):List Nat:=Bm e.n++Bf e.cof++Bf e.g++BZ e.o++BJ e.c++BJ e.q++BJ e.s++Kg e.r++Bt GO e.a++Bt Kz e.sq++Bt Qp e.x++Fb e.b
def Er(f:Fct):List Nat:=FV f.k++IN f.c++KC f.e
abbrev Rd(F:Type):=List Nat->Option (F×List Nat)
def Cu{F:Type}(a:F):Rd F:=λb=>some (a,b)
def Rd.bind{F q:Type}(p:Rd F)(f:F->Rd q):Rd q:=λb=>match p b with
 |none=>none
 |some (a,z)=>f a z
def Qr:Nat->Nat->Nat->Rd Nat
 |0,_,_=>λ_=>none
 |k+1,s,n=>λb=>match b with
  |[]=>none
  |c::z=>if 18446744073709551616<=(c%128)*s then none else if c<128 then some (n+(c%128)*s,z)else Qr k (s*128) (n+(c%128)*s) z
def Qq:Rd Nat:=Qr 10 1 0
def RT{F:Type}(p:Rd F)(e:F->List Nat)(D:F->Prop):Prop:=∀x,D x->∀b,p (e x++b)=some (x,b)
theorem A28:∀(k s n x:Nat),0<s->x*s<18446744073709551616->x<128^k->0<k->∀b,Qr k s n (BA x++b)=some (n+x*s,b)
 |0,_,_,_,_,_,_,h,_=>absurd h (Ycf 0)
 |k+1,s,n,x,Z,C,B,_,b=>by
  rw[BA];split
  .rename_i h
   rw[Ycz,Ycs,Qr]
   dsimp only
   rw[YaS h,Yai ZbG,Yan h]
  .rename_i h
   rw[Ycz,Qr];have q:(x%128+128)%128=x%128:=by omega
   have y:x%128*s<=x*s:=YaX (Nat.mod_le _ _) (Yah _)
   dsimp only
   rw[q,Yai ZbG,Yai ZbG]
   have M:x/128<128^k:=by
    rw[YdK ZbG];rwa [Ybr]at B
   have d:0<k:=by
    rcases Yax k with e | e
    .subst e
     rw[Nat.pow_zero]at M;omega
    .exact e
   have A:x/128*(s*128)=(x/128*128)*s:=by rw[YaN s 128,Ybb]
   have Y:x*s=x%128*s+x/128*128*s:=by
    exact ZiC
   rw[A28 k (s*128) _ (x/128) ZbG (by rw[A];omega) M d b,A];congr 2;omega
theorem A7w:RT Qq BA λn=>n<18446744073709551616:=λx C b=>by
 have:=A28 10 1 0 x ZbG ZbG (Yek C ZbL) ZbG b;rw[Qq,this,YaG,YbF]
theorem Bn{F a:Type}{p:Rd F}{e:F->List Nat}{D:F->Prop}(h:RT p e D)(f:F->Rd a){x:F}(C:D x)(b:List Nat):p.bind f (e x++b)=f x b:=by
 rw[Rd.bind,h x C b]
def Cq{F:Type}(p:Rd F):Nat->Rd (List F)
 |0=>Cu []
 |n+1=>p.bind λx=>(Cq p n).bind λl=>Cu (x::l)
theorem QI{F:Type}{p:Rd F}{e:F->List Nat}{D:F->Prop}(h:RT p e D):∀(l:List F),(∀x∈l,D x)->∀b,Cq p l.length (l.flatMap e++b)=some (l,b)
 |[],_,b=>rfl
 |x::l,I,b=>by
  rw[Yay,Cq,YcE,Yaf,Bn h _ (I x Ybp),Rd.bind,QI h l (λy N=>I y (Ybo _ N))];rfl
def KZ(c:List Nat->Bool):Rd Unit:=λb=>if c b=true then some ((),b)else none
theorem Dk{F:Type}{e:F->List Nat}:∀{l:List F},(∀x∈l,0<(e x).length)->l.length<=(l.flatMap e).length
 |[],_=>Yaw _
 |x::l,h=>by
  have q:=Dk (e:=e) (l:=l) λy N=>h y (Ybo _ N);have A:=h x Ybp;rw[YcE,Yaa,Yay];omega
structure Lg where
 nat:Rd Nat
 ex:Nat->Bool
structure LgOk(G:Lg):Prop where
 nat:RT G.nat BA λn=>n<9223372036854775808
 ex:∀n,n<=65535->G.ex n=true
section
variable (G:Lg)
def Gz{F:Type}(p:Rd F):Rd (List F):=G.nat.bind λn=>(KZ λb=>decide (n<=b.length)).bind λ_=>Cq p n
def KF:Rd Nat:=λb=>match b with
 |I::T::w::N::z=>some (I*16777216+T*65536+w*256+N,z)
 |_=>none
def Sn:Rd (Bool×List Nat):=G.nat.bind λn=>(KZ λb=>decide (n/2<=b.length/4)).bind λ_=>(Cq KF (n/2)).bind λl=>Cu (decide (n%2=1),l)
def Hc:Rd RQ:=(Sn G).bind λa=>(Sn G).bind λc=>Cu ⟨a.1,a.2,c.1,c.2⟩
def MI{F:Type}[Inhabited F](p:Rd F):Rd (Nat->F):=(Cq p 8).bind λl=>Cu λi=>l.getD i default
def SB:Rd Int:=G.nat.bind λn b=>if G.ex n=true then some ((n:Int),b)else none
def JD:Rd RTm:=(Hc G).bind λq=>(MI (SB G)).bind λm=>Cu ⟨q.b,q.l,q.b',q.l',m⟩
def IU:Rd Int:=G.nat.bind λn=>Cu (if n%2=0 then((n/2:Nat):Int)else -((n/2:Nat):Int)-1)
abbrev HX:Rd (List RTm):=Gz G (JD G)
abbrev EY:Rd (List (List RTm)):=Gz G (HX G)
abbrev OG:Rd (List (List (List RTm))):=Gz G (EY G)
abbrev TF:Rd (Nat->Int):=MI (IU G)
abbrev OP:Rd (List (Nat->Int)):=Gz G (TF G)
abbrev Vf:Rd (List RQ):=Gz G (Hc G)
def VT:Rd (RQ×RQ):=(Hc G).bind λa=>(Hc G).bind λb=>Cu (a,b)
abbrev Wo:Rd (Nat->RQ×RQ):=MI (VT G)
abbrev Pn:Rd (List (Nat->RQ×RQ)):=Gz G (Wo G)
abbrev ptP:Rd (Nat->RQ):=MI (Hc G)
def sqP:Rd (RQ×List RTm):=(Hc G).bind λa=>(HX G).bind λp=>Cu (a,p)
def YI:Rd Cor:=(IU G).bind λn=>(EY G).bind λe=>(EY G).bind λf=>Cu ⟨n,e,f⟩
def MR:Rd Clm:=(IU G).bind λkind=>(HX G).bind λp=>(IU G).bind λn=>(IU G).bind λd=>(IU G).bind λr=>(OP G).bind λo=>(EY G).bind λl=>(Gz G (IU G)).bind λs=>(Pn G).bind λb=>Cu ⟨kind,p,n,d,r,o,l,s,b⟩
def XC:Rd Rsl:=(TF G).bind λl=>(Vf G).bind λq=>(MI (Vf G)).bind λr=>Cu ⟨l,q,r⟩
def KB:Rd Crt:=(IU G).bind λn=>(EY G).bind λI=>(EY G).bind λg=>(OP G).bind λo=>(OG G).bind λc=>(OG G).bind λq=>(OG G).bind λs=>(XC G).bind λr=>(Gz G (VT G)).bind λa=>(Gz G (sqP G)).bind λJ=>(Gz G (ptP G)).bind λx=>(Pn G).bind λb=>Cu ⟨n,I,g,o,c,q,s,r,a,J,x,b⟩
def Sy:Rd Fct:=(YI G).bind λk=>(MR G).bind λc=>(KB G).bind λe=>Cu ⟨k,c,e⟩
end
def SmW(l:List Nat):Prop:=(∀w∈l,w<4294967296)/\l.length<4611686018427387904
structure QB(q:RQ):Prop where
 n:SmW q.l
 d:SmW q.l'
def Oct{F:Type}[Inhabited F](D:F->Prop)(f:Nat->F):Prop:=(∀i,i<8->D (f i))/\∀i,8<=i->f i=default
structure TB(t:RTm):Prop where
 n:SmW t.l
 d:SmW t.l'
 m:Oct (λz=>0<=z/\z<=65535) t.m
def LB{F:Type}(D:F->Prop)(l:List F):Prop:=(∀x∈l,D x)/\l.length<9223372036854775808
abbrev PoB:List RTm->Prop:=LB TB
abbrev PsB:List (List RTm)->Prop:=LB PoB
abbrev TaB:List (List (List RTm))->Prop:=LB PsB
def IB(z:Int):Prop:=-2305843009213693952<=z/\z<=2305843009213693952
abbrev OrB:List (Nat->Int)->Prop:=LB (Oct IB)
abbrev UnB:List RQ->Prop:=LB QB
def VB(a:RQ×RQ):Prop:=QB a.1/\QB a.2
abbrev BoB:List (Nat->RQ×RQ)->Prop:=LB (Oct VB)
def Abt(s:RQ×List RTm):Prop:=QB s.1/\PoB s.2
structure CoB(k:Cor):Prop where
 n:IB k.n
 e:PsB k.e
 f:PsB k.f
structure ClB(c:Clm):Prop where
 kind:IB c.kind
 p:PoB c.p
 n:IB c.n
 d:IB c.d
 r:IB c.r
 o:OrB c.o
 l:PsB c.l
 s:LB IB c.s
 b:BoB c.b
structure RsB(r:Rsl):Prop where
 l:Oct IB r.l
 q:UnB r.q
 r:Oct UnB r.r
structure CrB(e:Crt):Prop where
 n:IB e.n
 cof:PsB e.cof
 g:PsB e.g
 o:OrB e.o
 c:TaB e.c
 q:TaB e.q
 s:TaB e.s
 r:RsB e.r
 a:LB VB e.a
 sq:LB Abt e.sq
 x:LB (Oct QB) e.x
 b:BoB e.b
structure FB(f:Fct):Prop where
 k:CoB f.k
 c:ClB f.c
 e:CrB f.e
theorem II(n:Nat):0<(BA n).length:=by
 rw[BA];split<;>simp
section
variable {G:Lg} (hG:LgOk G)
include hG
theorem Hy{F:Type}{p:Rd F}{e:F->List Nat}{D:F->Prop}(h:RT p e D)(d:∀x,D x->0<(e x).length):RT (Gz G p) (Bt e) (LB D):=λl ⟨I,q⟩ b=>by
 rw[Gz,Bt,Yaf,Bn hG.nat _ q];have:=Dk (e:=e) (l:=l) λx C=>d x (I x C);rw[Rd.bind,KZ,Yan (Yak Zdy)];exact QI h l I b
variable{l:List Nat}
theorem A5H(I:SmW l)(r:List Nat):Sn G (Hp o l++r)=some ((o,l),r):=by
 have c:RT KF CA λw=>w<4294967296:=λw c o=>by
  show some (w/16777216%256*16777216+w/65536%256*65536+w/256%256*256+w%256,o)=some (w,o);congr 2;omega
 have L:(l.flatMap CA).length=4*l.length:=by
  clear I
  induction l with
  |nil=>rfl
  |cons w l v=>rw[YcE,Yaa,v,Yay];show 4+_=_;omega
 have A:2*l.length+(if o=true then 1 else 0)<9223372036854775808:=by
  have:=I.2;split<;>omega
 have K:(2*l.length+(if o=true then 1 else 0))/2=l.length:=by split<;>omega
 have Y:decide ((2*l.length+(if o=true then 1 else 0))%2=1)=o:=by
  cases o
  .exact Yad ZbV
  .exact Yak ZcR
 rw[Sn,Hp,Yaf,Bn hG.nat _ A,K,Y,Rd.bind,KZ,Yan (Yak (by rw[Yaa,L];omega))]
 dsimp only
 rw[Rd.bind,QI c l I.1 r];rfl
theorem OI:RT (Hc G) CG QB:=λq k b=>by
 rw[Hc,CG,Yaf,Rd.bind,A5H hG k.n]
 dsimp only
 rw[Rd.bind,A5H hG k.d];rfl
omit hG in
theorem OR[Inhabited e]{p:Rd e}{q:e->List Nat}(h:RT p q ur):RT (MI p) (Jx q) (Oct ur):=λf ⟨E,d⟩ b=>by
 have A:Jx q f=((List.range 8).map f).flatMap q:=by rw[List.flatMap_map];rfl
 have B:=QI h ((List.range 8).map f) (λx C=>by
  obtain⟨i,J,rfl⟩:=YaA.1 C;exact E i (Ybd.1 J)) b
 rw[Yap,Yew]at B;rw[MI,A,Rd.bind,B]
 dsimp only
 rw[Cu];congr 2;funext i;by_cases J:i<8
 .rw [Yab,Yau,Ydp J];rfl
 .rw [d i ZbG,Yab,YbE ZiB];rfl
theorem A9H:RT (SB G) (λz=>BA (u64 z)) λz=>0<=z/\z<=65535:=λz ⟨d,q⟩ b=>by
 have S:((u64 z:Nat):Int)=z:=by
  unfold u64;omega
 rw[SB,Bn hG.nat _ (show u64 z<9223372036854775808 by omega),Yan (hG.ex _ ZbG),S]
theorem A79:RT (JD G) Ef TB:=λt L b=>by
 rw[JD,Ef,Yaf];have q:Hp t.b t.l++Hp t.b' t.l'=CG ⟨t.b,t.l,t.b',t.l'⟩:=rfl;rw[q,Bn (OI hG) _ (x:=⟨t.b,t.l,t.b',t.l'⟩) ⟨L.n,L.d⟩,Bn (OR (A9H hG)) _ L.m];rfl
theorem IG:RT (IU G) Bm IB:=λz ⟨d,q⟩ b=>by
 rw[IU,Bm,Bn hG.nat _ (show TI z<9223372036854775808 by unfold TI;split<;>omega),Cu];congr 2;unfold TI;split<;>split<;>omega
end
variable{l h:List Nat}
theorem Jj(q:0<l.length):0<(l++h).length:=by rw[Yaa];omega
theorem JO{F:Type}(e:F->List Nat)(l:List F):0<(Bt e l).length:=Jj (II _)
theorem A2g(b:Bool)(l:List Nat):0<(Hp b l).length:=Jj (II _)
theorem Jc(q:RQ):0<(CG q).length:=Jj (A2g _ _)
theorem Rm(t:RTm):0<(Ef t).length:=Jj (Jj (A2g _ _))
theorem LN(z:Int):0<(Bm z).length:=II _
theorem Ie{F:Type}{e:F->List Nat}(h:∀x,0<(e x).length)(f:Nat->F):0<(Jx e f).length:=by
 have b:Jx e f=e (f 0)++((List.range' 1 7).flatMap λi=>e (f i)):=by rw[Jx,List.range_eq_range'];rfl
 rw[b];exact Jj (h _)
theorem Pa(a:RQ×RQ):0<(GO a).length:=Jj (Jc _)
theorem ZZ(s:RQ×List RTm):0<(Kz s).length:=Jj (Jc _)
section
variable {G:Lg} (hG:LgOk G)
include hG
theorem Nq:RT (HX G) Cp PoB:=Hy hG (A79 hG) λ_ _=>Rm _
theorem JK:RT (EY G) Bf PsB:=Hy hG (Nq hG) λ_ _=>JO _ _
theorem Rp:RT (OG G) BJ TaB:=Hy hG (JK hG) λ_ _=>JO _ _
theorem Ns:RT (OP G) BZ OrB:=Hy hG (OR (IG hG)) λ_ _=>Ie LN _
theorem A4v:RT (Vf G) GF UnB:=Hy hG (OI hG) λ_ _=>Jc _
theorem A8K:RT (VT G) GO VB:=λa h b=>by
 rw[VT,GO,Yaf,Bn (OI hG) _ h.1,Bn (OI hG) _ h.2];rfl
theorem YQ:RT (Pn G) Fb BoB:=Hy hG (OR (A8K hG)) λ_ _=>Ie Pa _
theorem AaS:RT (sqP G) Kz Abt:=λa h b=>by
 rw[sqP,Kz,Yaf,Bn (OI hG) _ h.1,Bn (Nq hG) _ h.2];rfl
theorem A9Q:RT (YI G) FV CoB:=λk h b=>by
 rw[YI,FV,Yaf,Yaf,Bn (IG hG) _ h.n,Bn (JK hG) _ h.e,Bn (JK hG) _ h.f];rfl
theorem A9R:RT (MR G) IN ClB:=λc h b=>by
 rw[MR,IN];simp only[Yaf];rw[Bn (IG hG) _ h.kind,Bn (Nq hG) _ h.p,Bn (IG hG) _ h.n,Bn (IG hG) _ h.d,Bn (IG hG) _ h.r,Bn (Ns hG) _ h.o,Bn (JK hG) _ h.l,Bn (Hy hG (IG hG) λ_ _=>LN _) _ h.s,Bn (YQ hG) _ h.b];rfl
theorem A9b:RT (XC G) Kg RsB:=λr h b=>by
 rw[XC,Kg,Yaf,Yaf,Bn (OR (IG hG)) _ h.l,Bn (A4v hG) _ h.q,Bn (OR (A4v hG)) _ h.r];rfl
theorem A9O:RT (KB G) KC CrB:=λe h b=>by
 rw[KB,KC];simp only[Yaf];rw[Bn (IG hG) _ h.n,Bn (JK hG) _ h.cof,Bn (JK hG) _ h.g,Bn (Ns hG) _ h.o,Bn (Rp hG) _ h.c,Bn (Rp hG) _ h.q,Bn (Rp hG) _ h.s,Bn (A9b hG) _ h.r,Bn (Hy hG (A8K hG) λ_ _=>Pa _) _ h.a,Bn (Hy hG (AaS hG) λ_ _=>ZZ _) _ h.sq,Bn (Hy hG (OR (OI hG)) λ_ _=>Ie Jc _) _ h.x,Bn (YQ hG) _ h.b];rfl
theorem A9F:RT (Sy G) Er FB:=λf h b=>by
 rw[Sy,Er,Yaf,Yaf,Bn (A9Q hG) _ h.k,Bn (A9R hG) _ h.c,Bn (A9O hG) _ h.e];rfl
end
def pG:Lg:=⟨Qq,λn=>decide (n<=65535)⟩
theorem RN:LgOk pG:=⟨λx C b=>A7w x (Yek C ZbL) b,λn h=>Yak h⟩
def oct(r:Nat->D):List D:=[r 0,r 1,r 2,r 3,r 4,r 5,r 6,r 7]
def ZS{F:Type}(r:Nat->F)(k:Nat)(u:F):Nat->F:=λj=>if j=k then u else r j
theorem A1z{r:Nat->D}(h:n<8):CellAt (oct r) n (r n):=by
 refine⟨h,?_⟩
 match n,h with
 |0,_ |1,_ |2,_ |3,_ |4,_ |5,_ |6,_ |7,_=>rfl
section
variable {P:Program} {hp:List Ow} {arg:Operand->AV} {dd:Option Tmp} {ty:TypeId} {ps:String} {af:Array Edge} {gd:Option (Nat×Bool)} {T U:TypeId} {x y:Operand} {k:IntKind} {a b r:Int}
theorem DP(C:arg x=.d (ex (.int k a)))(N:arg y=.d (ex (.int k b)))(V:k.wrap (a+b)=r):Quiet P hp ⟨dd,.binOp .add T x y U,ty,ps,af,gd⟩ arg (.d (ex (.int k r))):=
 CM rfl C N λw=>by simp[eqGuard,binOp,Op.intArith,V]
theorem GV(C:arg x=.d (ex (.int k a)))(N:arg y=.d (ex (.int k b)))(V:k.wrap (a*b)=r):Quiet P hp ⟨dd,.binOp .mul T x y U,ty,ps,af,gd⟩ arg (.d (ex (.int k r))):=
 CM rfl C N λw=>by simp[eqGuard,binOp,Op.intArith,V]
theorem GU(C:arg x=.d (ex (.int k a)))(N:arg y=.d (ex (.int k b)))(E:b≠0)(V:k.wrap (a.tdiv b)=r):Quiet P hp ⟨dd,.binOp .quo T x y U,ty,ps,af,gd⟩ arg (.d (ex (.int k r))):=
 CM rfl C N λw=>by simp[eqGuard,binOp,Op.intDiv,E,V]
variable{i:IntKind}
theorem Me(C:arg x=.d (ex (.int k a)))(N:arg y=.d (ex (.int i (n:Nat))))(h:Min.min n k.bits=n)(V:k.wrap (a*2^n)=r):Quiet P hp ⟨dd,.binOp .shl T x y U,ty,ps,af,gd⟩ arg (.d (ex (.int k r))):=
 CM rfl C N λw=>by
  have q:¬((n:Int)<0):=by omega
  simp[eqGuard,binOp,Op.shift,q,h,V]
theorem Ey(C:arg x=.d (ex (.int k a)))(N:arg y=.d (ex (.int i (n:Nat))))(h:Min.min n k.bits=n)(V:a.fdiv (2^n)=r):Quiet P hp ⟨dd,.binOp .shr T x y U,ty,ps,af,gd⟩ arg (.d (ex (.int k r))):=
 CM rfl C N λw=>by
  have q:¬((n:Int)<0):=by omega
  simp[eqGuard,binOp,Op.shift,q,h,V]
theorem WN(C:arg x=.d (ex (.int k a)))(N:arg y=.d (ex (.int k b)))(V:k.wrap ((BitVec.ofInt k.bits a ||| BitVec.ofInt k.bits b).toNat)=r):Quiet P hp ⟨dd,.binOp .or T x y U,ty,ps,af,gd⟩ arg (.d (ex (.int k r))):=
 CM rfl C N λw=>by
  simp only[eqGuard,binOp,Op.intBits,V];simp[V]
variable{z u:Value}
theorem AP{S o:TypeId}{d:TypeDesc}{n b g q:Nat}(C:arg x=.d (ex (.int k a)))(p:Tab P S d n b z)(A:Tab P o (.int i) g q u)(V:i.wrap a=r):Quiet P hp ⟨dd,.convert S o x,ty,ps,af,gd⟩ arg (.d (ex (.int i r))):=by
 subst V;exact SW rfl C p A
end
theorem ES{n:Int}(h:0<=n/\n<=18446744073709551615):IntKind.u64.wrap n=n:=IntWalk.u64_in n h
