/- Part 26 of the proof of hilbertMatchesReference_holds. No condition. -/
import Derived.Test.YtialdhnijjnpaaaGreatQg18
import Derived.Test.YtialdhnijjnpaaaGreatQg21
import Derived.Test.YtialdhnijjnpaaaGreatQg24
import Derived.Test.YtialdhnijjnpaaaGreatQg25
set_option linter.unusedSimpArgs false
set_option linter.unusedVariables false
set_option maxRecDepth 100000
set_option maxHeartbeats 4000000
namespace Go.Proofs.YtialdhnijjnpaaaGreat
open Go.RowKit
def mz:Nat->Int:=λ_=>0
def mx2:Nat->Int
 | 0=>2
 | _=>0
def mxy:Nat->Int
 | 0=>1
 | 1=>1
 | _=>0
def mx:Nat->Int
 | 0=>1
 | _=>0
def my2:Nat->Int
 | 0=>0
 | 1=>2
 | _=>0
def my:Nat->Int
 | 0=>0
 | 1=>1
 | _=>0
abbrev lA:Ai:=[mx2,mxy]
abbrev lB:Ai:=[mx,my2]
theorem j8{p:Nat->Prop}(h0:p 0)(h1:p 1)(h2:p 2)(h3:p 3)(h4:p 4)(h5:p 5)(h6:p 6)(h7:p 7)(j:Nat)(hj:j<8):p j:=by
 have:j=0\/j=1\/j=2\/j=3\/j=4\/j=5\/j=6\/j=7:=by omega
 rcases this with rfl | rfl | rfl | rfl | rfl | rfl | rfl | rfl<;>assumption
theorem Kl:∀y∈lA,In8 y 0 2/\SupN 2 y/\BQ 8 0 y<=2:=λy hy=>by
 simp only [List.mem_cons,List.not_mem_nil,or_false] at hy
 rcases hy with rfl | rfl
 .exact ⟨j8 (by decide) (by decide) (by decide) (by decide) (by decide) (by decide) (by decide) (by decide),j8 (by decide) (by decide) (by decide) (by decide) (by decide) (by decide) (by decide) (by decide),by decide⟩
 .exact ⟨j8 (by decide) (by decide) (by decide) (by decide) (by decide) (by decide) (by decide) (by decide),j8 (by decide) (by decide) (by decide) (by decide) (by decide) (by decide) (by decide) (by decide),by decide⟩
theorem QG:∀y∈lB,In8 y 0 2/\SupN 2 y/\BQ 8 0 y<=2:=λy hy=>by
 simp only [List.mem_cons,List.not_mem_nil,or_false] at hy
 rcases hy with rfl | rfl
 .exact ⟨j8 (by decide) (by decide) (by decide) (by decide) (by decide) (by decide) (by decide) (by decide),j8 (by decide) (by decide) (by decide) (by decide) (by decide) (by decide) (by decide) (by decide),by decide⟩
 .exact ⟨j8 (by decide) (by decide) (by decide) (by decide) (by decide) (by decide) (by decide) (by decide),j8 (by decide) (by decide) (by decide) (by decide) (by decide) (by decide) (by decide) (by decide),by decide⟩
theorem In8.big{y:Nat->Int}{a b:Int}(h:In8 y 0 a)(hab:a<=b):In8 y 0 b:=λj hj=>by
 have:=h j hj
 omega
theorem A50:∃N f,HilC lA 2 N f:=Pa 2 2 2 lA (by decide) (by decide) (by decide) (by decide) (λy hy=>(Kl y hy).1.big (by decide)) (λy hy=>(Kl y hy).2.1) (λy hy=>(Kl y hy).2.2) (by decide)
theorem A4Z:∃N f,HilC lB 2 N f:=Pa 2 2 2 lB (by decide) (by decide) (by decide) (by decide) (λy hy=>(QG y hy).1.big (by decide)) (λy hy=>(QG y hy).2.1) (λy hy=>(QG y hy).2.2) (by decide)
theorem WO(q:Nat->Int):IsMin [q] [q]:=⟨List.pairwise_singleton _ _,λx=>⟨λh=>⟨h,λy hy hd=>by
 rw [List.mem_singleton.1 hy] at hd ⊢
 obtain ⟨a,ha,e⟩:=h
 rwa [List.mem_singleton.1 ha] at e⟩,λh=>h.1⟩⟩
theorem WP:IsMin [] []:=⟨List.Pairwise.nil,λx=>⟨λ⟨a,ha,_⟩=>(by cases ha),λ⟨⟨a,ha,_⟩,_⟩=>(by cases ha)⟩⟩
def fA:Nat->Int
 | 0=>1
 | 2=>-2
 | 3=>1
 | _=>0
theorem UW(a:Nat->Int)(N:Nat)(h8:SupN 8 a)(hN:BQ 8 0 a+1<=N):NumL [a] (FM (λd=>Vx d-Fg (BQ 8 0 a) Vx d) N) λd=>Vx d-Fg (BQ 8 0 a) Vx d:=
 NumL.cons NumL.nil NumL.nil WP (λy hy=>by cases hy) h8 N (by omega) (.inl hN)
theorem A16{n:Nat}{a:Nat->Int}(h:SupN n a):SupN 8 a:=λj hj=>⟨(h j hj).1,λh=>by omega⟩
theorem A4X:∃F:Nat->Int,NumL lA 4 F/\∀i,i<4->F i=fA i:=by
 have h1:=UW mxy 3 (A16 (Kl mxy (by simp)).2.1) (by decide)
 have h2:=UW (qM mxy mx2) 2 (λj hj=>⟨A2A mxy mx2 (λj hj=>((Kl mxy (by simp)).2.1 j hj).1) j hj,λh=>by omega⟩) (by decide)
 have h3:=NumL.cons (rest:=[mxy]) (R:=[qM mxy mx2]) (a:=mx2) h1 h2 (WO _) (λy hy=>by rw [List.mem_singleton.1 hy];exact A16 (Kl mxy (by simp)).2.1) (A16 (Kl mx2 (by simp)).2.1) 4 (by decide) (.inl (by decide))
 refine ⟨_,h3,λi hi=>?_⟩
 have:i=0\/i=1\/i=2\/i=3:=by omega
 rcases this with rfl | rfl | rfl | rfl<;>decide
theorem Abs.le_{P:Program}{f:FuncId}{ds:List D}{r r':D}(h:Abs P f ds r)(hr:D.le r r'):Abs P f ds r':=
 ⟨h.1,λs vs h1 h2 h3=>(h.2 s vs h1 h2 h3).mono λe w' ⟨v,he,s',hw,hl,hv⟩=>⟨v,he,s',hw,hl,hr s' v hv⟩⟩
theorem dmA:EF lA 2=1:=by decide +kernel
theorem dmB:EF lB 2=0:=by decide +kernel
theorem mxA:GJ lA (2^2)=[2]:=by decide +kernel
theorem A4V:(Abs Tryz.prog 14 [AZ lA,ex (.int .i64 2)] (BC [nD 4 fA,ex (.int .i64 0)]))/\(Abs Tryz.prog 22 [AZ lA,ex (.int .i64 2)] (BC [ex (.int .i64 1),ex (.int .i64 0)]))/\(Abs Tryz.prog 24 [AZ lA,ex (.int .i64 2)] (BC [ex (.int .i64 1),ex (.int .i64 0)]))/\(∃F:Nat->Rat,F 0=((1:Int):Rat)/\Abs Tryz.prog 26 [AZ lA,ex (.int .i64 2)] (BC [BP 1 F,ex (.int .i64 0)]))/\(Abs Tryz.prog 16 [AZ lA,ex (.int .i64 2),ex (.int .i64 3)] (BC [ex (.int .i64 1),ex (.int .i64 0)]))/\(Abs Tryz.prog 18 [AZ lA,ex (.int .i64 2)] (BC [Oo [2],ex (.int .i64 0)]))/\(Abs Tryz.prog 28 [AZ lA,ex (.int .i64 2)] (BC [ex (.slice none 0 0),ex (.int .i64 160)])):=by
 obtain ⟨N,f,hc⟩:=A50
 obtain ⟨F,hF,hFv⟩:=A4X
 have h8:∀a∈lA,SupN 8 a:=λa ha=>A16 (Kl a ha).2.1
 obtain ⟨rfl,rfl⟩:=hc.num.inj hF h8
 have e0:f=λi=>fA i:=funext λi=>by
  by_cases hi:i<4
  .exact hFv i hi
  .rw [hF.far i (by omega)]
   match i,hi with
   | i+4,_=>rfl
 have e0:f=fA:=e0
 subst e0
 have d1:EF lA 2=((1:Nat):Int):=dmA
 have hq:=hc.qb 1 d1
 have hcc:=hc.cc 1 d1
 have hcd:=hc.cd
 rw [dmA] at hcd
 have hcg:=hc.cg
 have eg:Ti lA 2 4 fA=1:=by
  unfold Ti
  rw [dmA]
  decide +kernel
 rw [eg] at hcg
 refine ⟨Oc lA 2 4 fA hc.ck hc.cn,Of lA 2 1 hc.ck hcd,Sb lA 2 1 hc.ck hcg,?_,?_,?_,NO lA 2 1 (by decide) hc.ck hcd⟩
 .have hp:=NZ lA 2 1 (cN 4 fA (2-1)).1 (BU (2-1) fA) (by decide) (by decide) (by decide) hq hc.ck hcd hcc
  have e1:(pH (BU (2-1) fA) 1 (cN 4 fA (2-1)).1).1=1:=by decide +kernel
  rw [e1] at hp
  exact ⟨_,by decide +kernel,hp⟩
 .have hp:=Og lA 2 3 4 fA 4096 (by decide) (by decide) hc.ck hc.cn hc.num.far (λt _=>hc.bnd t) (by decide)
  have e1:BU 2 fA 3=1:=by decide +kernel
  rw [e1] at hp
  exact hp
 .have hp:=Od lA 2 (by decide) (by decide) hc.ck
  rw [mxA] at hp
  exact hp
theorem A4T:IsStd lB 2 [mz,my]:=by
 refine ⟨?_,λx=>⟨λ⟨a,ha,e⟩=>?_,λhx=>?_⟩⟩
 .rw [List.pairwise_cons]
  refine ⟨λb hb=>?_,List.pairwise_singleton _ _⟩
  rw [List.mem_singleton.1 hb]
  decide +kernel
 .simp only [List.mem_cons,List.not_mem_nil,or_false] at ha
  have key:StdX lB 2 a:=by
   rcases ha with rfl | rfl
   .exact ⟨j8 (by decide) (by decide) (by decide) (by decide) (by decide) (by decide) (by decide) (by decide),by decide +kernel⟩
   .exact ⟨j8 (by decide) (by decide) (by decide) (by decide) (by decide) (by decide) (by decide) (by decide),by decide +kernel⟩
  exact key.congr e
 .have h1:¬Dv mx x:=λhd=>by
   have:=(Dp (l:=lB)).2 ⟨mx,List.mem_cons_self,hd⟩
   rw [hx.2] at this
   cases this
  have h2:¬Dv my2 x:=λhd=>by
   have:=(Dp (l:=lB)).2 ⟨my2,List.mem_cons_of_mem _ List.mem_cons_self,hd⟩
   rw [hx.2] at this
   cases this
  have hn:∀j,j<8->0<=x j:=λj hj=>(hx.1 j hj).1
  have hz:∀j,j<8->2<=j->x j=0:=λj hj h=>(hx.1 j hj).2 h
  have h0:x 0=0:=by
   refine Classical.byContradiction λhne=>h1 λj hj=>?_
   by_cases e:j=0
   .subst e
    have:=hn 0 (by omega)
    show (1:Int)<=x 0
    omega
   .have:mx j=0:=by
     match j,e with
     | j+1,_=>rfl
    rw [this]
    exact hn j hj
  have h3:x 1<2:=by
   refine Classical.byContradiction λhne=>h2 λj hj=>?_
   by_cases e:j=1
   .subst e
    show (2:Int)<=x 1
    omega
   .have:my2 j=0:=by
     match j,e with
     | 0,_=>rfl
     | j+2,_=>rfl
    rw [this]
    exact hn j hj
  have h4:=hn 1 (by omega)
  by_cases h5:x 1=0
  .exact ⟨mz, by simp, fun j hj => by
    show 0=x j
    by_cases e:2<=j
    .exact (hz j hj e).symm
    .have:j=0\/j=1:=by omega
     rcases this with rfl | rfl<;>omega⟩
  .refine ⟨my, by simp, λj hj=>?_⟩
   match j,hj with
   | 0,_=>exact h0.symm
   | 1,_=>show (1:Int)=x 1;omega
   | j+2,hj=>exact (hz (j+2) hj (by omega)).symm
theorem A4U:Abs Tryz.prog 28 [AZ lB,ex (.int .i64 2)] (BC [AZ [mz,my],ex (.int .i64 0)]):=by
 obtain ⟨N,f,hc⟩:=A4Z
 have h:=Rt (E:=1) hc (by decide) (by decide) (λy hy=>(QG y hy).2.1) (λa ha j hj=>((QG a ha).1 j hj).2) (by decide) (by rw [dmB];decide) (by decide)
 exact h.le_ (Be (λs v ⟨S,hS,hv⟩=>by rw [<-hS.same A4T];exact hv) (D.le.refl _))
theorem SE:Abs Tryz.prog 11 [] (ex (.bool true)):=by
 obtain ⟨c1,c2,c3,⟨F,hF,c4⟩,c5,c6,c8⟩:=A4V
 have c7:=A4U
 have cq:Abs Tryz.prog 41 [Bb (BT (F 0)),Bb (BT q1)] (ex (.bool true)):=by
  have:=Mo (F 0) q1
  rwa [decide_eq_true hF] at this
 refine Ab Tryz.func11 λs0=>?_
 rw [Tryz.ntmps11]
 refine Y1<|Wa<|Y0<|Y1 ?_;(refine CD rfl rfl ?_;(refine FK (Ac rfl) (Ac rfl) rfl rfl ?_;(repeat ((first | refine ⟨_,AW (ao rfl),?_⟩ | refine ⟨_,Po rfl,?_⟩);refine ⟨_,rfl,?_⟩));refine ⟨_,rfl,?_⟩));(refine CD rfl rfl ?_;(refine FK (Ac rfl) (Ac rfl) rfl rfl ?_;(repeat ((first | refine ⟨_,AW (ao rfl),?_⟩ | refine ⟨_,Po rfl,?_⟩);refine ⟨_,rfl,?_⟩));refine ⟨_,rfl,?_⟩));(refine CD rfl rfl ?_;(refine Cl (Ac rfl) (Ac rfl) rfl rfl rfl rfl rfl ?_;(repeat ((first | refine ⟨_,AW (ao rfl),?_⟩ | refine ⟨_,Po rfl,?_⟩);refine ⟨_,rfl,?_⟩));refine ⟨_,rfl,?_⟩));refine Wa<|Y0<|Y1<|Wm ?_;refine Wq (Ad (c1)) ?_;refine Wm ?_;refine Wq AI ?_;refine Wq AI ?_;refine Wa<|Wa<|Y0<|Y1<|Wm ?_;refine Wq (Ad (c2)) ?_;refine Wm ?_;refine Wq AI ?_;refine Wq AI ?_;refine Wa<|Wa<|Y0<|Y1<|Wm ?_;refine Wq (Ad (c3)) ?_;refine Wm ?_;refine Wq AI ?_;refine Wq AI ?_;refine Wa<|Wa<|Y0<|Y1<|Wm ?_;refine Wq (Ad (c4)) ?_;refine Wm ?_;refine Wq AI ?_;refine Wq AI ?_;refine Wa<|Wa<|Y0<|Y1<|Wm ?_;refine Wq (Ad (c5)) ?_;refine Wm ?_;refine Wq AI ?_;refine Wq AI ?_;refine Wa<|Wa<|Y0<|Y1<|Wm ?_;refine Wq (Ad (c6)) ?_;refine Wm ?_;refine Wq AI ?_;refine Wq AI ?_;refine Wa<|Wa<|Y0<|Y1 ?_;(refine CD rfl rfl ?_;(refine FK (Ac rfl) (Ac rfl) rfl rfl ?_;(repeat ((first | refine ⟨_,AW (ao rfl),?_⟩ | refine ⟨_,Po rfl,?_⟩);refine ⟨_,rfl,?_⟩));refine ⟨_,rfl,?_⟩));(refine CD rfl rfl ?_;(refine FK (Ac rfl) (Ac rfl) rfl rfl ?_;(repeat ((first | refine ⟨_,AW (ao rfl),?_⟩ | refine ⟨_,Po rfl,?_⟩);refine ⟨_,rfl,?_⟩));refine ⟨_,rfl,?_⟩));(refine CD rfl rfl ?_;(refine Cl (Ac rfl) (Ac rfl) rfl rfl rfl rfl rfl ?_;(repeat ((first | refine ⟨_,AW (ao rfl),?_⟩ | refine ⟨_,Po rfl,?_⟩);refine ⟨_,rfl,?_⟩));refine ⟨_,rfl,?_⟩));refine Wq (Ad (c7)) ?_;refine Wm ?_;refine Wq AI ?_;refine Wq AI ?_;refine Wa<|Wa<|Y0<|Y1<|Wm ?_;refine Wq (Ad (c8)) ?_;refine Wm ?_;refine Wq AI ?_;refine Wq AI ?_;refine Wa<|Wa<|Y0<|Y1<|Wm ?_;refine Wq Ak ?_;refine Wm ?_;refine Wg Af ?_;refine Wg Ak ?_;refine Wq AM ?_;refine Wm ?_;refine Wg Af ?_;refine Wg Ak ?_;refine Wq AM ?_;refine Wm ?_;refine Wg Af ?_;refine Wg Ak ?_;refine Wq AM ?_;refine Wm ?_;refine Wg Af ?_;refine Wg Ak ?_;refine Wq AM ?_;refine Wm ?_;refine Wg Af ?_;refine Wg Ak ?_;refine Wq AM ?_;refine Wm ?_;refine Wg Af ?_;refine Wg Ak ?_;refine Wq AM ?_;refine Wm ?_;refine Wg Af ?_;refine Wg Ak ?_;refine Wq AM ?_;refine Wa<|Y0<|Aa ?_
 refine Dr [[],[(94,0)],[],[],[(96,2),(97,3)],[(95,1),(98,4)],[(99,5)],[],[(101,7)],[(100,6),(102,8)],[(103,9)],[],[(105,11)],[(104,10),(106,12)],[(107,13)],[],[(109,15)],[(110,16)],[(108,14),(111,17)],[(112,18)],[],[(114,20)],[(115,21)],[],[(116,22),(117,23)],[(113,19),(118,24)],[(119,25)],[],[(121,27)],[(120,26),(122,28)],[(123,29)],[],[],[(125,31),(126,32)],[(124,30),(127,33)],[(128,34)],[],[],[],[(131,37),(132,38)],[(130,36),(133,39)],[(129,35),(134,40)]] [[],[0],[0,1],[0,1],[0,1,2,3],[0,1,2,3,4],[0,1,2,3,4,5],[0,1,2,3,4,5,6],[0,1,2,3,4,5,6,7],[0,1,2,3,4,5,6,7,8],[0,1,2,3,4,5,6,7,8,9],[0,1,2,3,4,5,6,7,8,9,10],[0,1,2,3,4,5,6,7,8,9,10,11],[0,1,2,3,4,5,6,7,8,9,10,11,12],[0,1,2,3,4,5,6,7,8,9,10,11,12,13],[0,1,2,3,4,5,6,7,8,9,10,11,12,13,14],[0,1,2,3,4,5,6,7,8,9,10,11,12,13,14,15],[0,1,2,3,4,5,6,7,8,9,10,11,12,13,14,15,16],[0,1,2,3,4,5,6,7,8,9,10,11,12,13,14,15,16,17],[0,1,2,3,4,5,6,7,8,9,10,11,12,13,14,15,16,17,18],[0,1,2,3,4,5,6,7,8,9,10,11,12,13,14,15,16,17,18,19],[0,1,2,3,4,5,6,7,8,9,10,11,12,13,14,15,16,17,18,19,20],[0,1,2,3,4,5,6,7,8,9,10,11,12,13,14,15,16,17,18,19,20,21],[0,1,2,3,4,5,6,7,8,9,10,11,12,13,14,15,16,17,18,19],[0,1,2,3,4,5,6,7,8,9,10,11,12,13,14,15,16,17,18,19,20,21,22,23],[0,1,2,3,4,5,6,7,8,9,10,11,12,13,14,15,16,17,18,19,20,21,22,23,24],[0,1,2,3,4,5,6,7,8,9,10,11,12,13,14,15,16,17,18,19,20,21,22,23,24,25],[0,1,2,3,4,5,6,7,8,9,10,11,12,13,14,15,16,17,18,19,20,21,22,23,24,25,26],[0,1,2,3,4,5,6,7,8,9,10,11,12,13,14,15,16,17,18,19,20,21,22,23,24,25,26,27],[0,1,2,3,4,5,6,7,8,9,10,11,12,13,14,15,16,17,18,19,20,21,22,23,24,25,26,27,28],[0,1,2,3,4,5,6,7,8,9,10,11,12,13,14,15,16,17,18,19,20,21,22,23,24,25,26,27,28,29],[0,1,2,3,4,5,6,7,8,9,10,11,12,13,14,15,16,17,18,19,20,21,22,23,24,25,26,27,28,29,30],[0,1,2,3,4,5,6,7,8,9,10,11,12,13,14,15,16,17,18,19,20,21,22,23,24,25,26,27,28,29,30],[0,1,2,3,4,5,6,7,8,9,10,11,12,13,14,15,16,17,18,19,20,21,22,23,24,25,26,27,28,29,30,31,32],[0,1,2,3,4,5,6,7,8,9,10,11,12,13,14,15,16,17,18,19,20,21,22,23,24,25,26,27,28,29,30,31,32,33],[0,1,2,3,4,5,6,7,8,9,10,11,12,13,14,15,16,17,18,19,20,21,22,23,24,25,26,27,28,29,30,31,32,33,34],[0,1,2,3,4,5,6,7,8,9,10,11,12,13,14,15,16,17,18,19,20,21,22,23,24,25,26,27,28,29,30,31,32,33,34,35],[0,1,2,3,4,5,6,7,8,9,10,11,12,13,14,15,16,17,18,19,20,21,22,23,24,25,26,27,28,29,30,31,32,33,34,35],[0,1,2,3,4,5,6,7,8,9,10,11,12,13,14,15,16,17,18,19,20,21,22,23,24,25,26,27,28,29,30,31,32,33,34,35],[0,1,2,3,4,5,6,7,8,9,10,11,12,13,14,15,16,17,18,19,20,21,22,23,24,25,26,27,28,29,30,31,32,33,34,35,37,38],[0,1,2,3,4,5,6,7,8,9,10,11,12,13,14,15,16,17,18,19,20,21,22,23,24,25,26,27,28,29,30,31,32,33,34,35,36,37,38,39],[0,1,2,3,4,5,6,7,8,9,10,11,12,13,14,15,16,17,18,19,20,21,22,23,24,25,26,27,28,29,30,31,32,33,34,35,36,37,38,39,40]] ?_
 refine Xq Af ?_;refine Xq Af ?_;refine Xg Af ?_;(refine HqG rfl rfl ?_;refine Cl (Ac rfl) (Ac rfl) rfl rfl rfl rfl rfl ?_;(repeat ((first | refine ⟨_,AW (ah rfl),?_⟩ | refine ⟨_,Po rfl,?_⟩);refine ⟨_,rfl,?_⟩));refine ⟨_,rfl,?_⟩;refine ⟨_,rfl,?_⟩);refine Xg (Ad (VJ 4 fA (by decide))) ?_;refine Xq AM ?_;refine Xq Af ?_;refine Xg Af ?_;refine Xg Ak ?_;refine Xq AM ?_;refine Xq Af ?_;refine Xg Af ?_;refine Xg Ak ?_;refine Xq AM ?_;refine Xq Af ?_;refine Xg Af ?_;(refine ⟨_,JD rfl rfl (Cc (F:=BV F) rfl (Ac rfl)),?_⟩;refine ⟨_,rfl,?_⟩);refine Xg Ak ?_;refine Xq AM ?_;refine Xq Af ?_;refine Xg Af ?_;(refine ⟨_,JD rfl rfl (FH (F:=BV F) (k:=0) rfl (ah rfl) (Ac rfl) (Ac rfl) rfl (by decide)),?_⟩;refine ⟨_,rfl,?_⟩);refine Xg AB ?_;refine Xg (Ad (Tv 1 (by omega) (by omega))) ?_;refine Xg (Ad (cq)) ?_;refine Xq AM ?_;refine Xq Af ?_;refine Xg Af ?_;refine Xg Ak ?_;refine Xq AM ?_;refine Xq Af ?_;refine Xg Af ?_;(refine HqG rfl rfl ?_;refine Cl (Ac rfl) (Ac rfl) rfl rfl rfl rfl rfl ?_;(repeat ((first | refine ⟨_,AW (ah rfl),?_⟩ | refine ⟨_,Po rfl,?_⟩);refine ⟨_,rfl,?_⟩));refine ⟨_,rfl,?_⟩;refine ⟨_,rfl,?_⟩);refine Xg (Ad (VI [2])) ?_;refine Xq AM ?_;refine Xq Af ?_;refine Xg Af ?_;(refine HqG rfl rfl ?_;refine FK (Ac rfl) (Ac rfl) rfl rfl ?_;(repeat ((first | refine ⟨_,AW (ah rfl),?_⟩ | refine ⟨_,Po rfl,?_⟩);refine ⟨_,rfl,?_⟩));refine ⟨_,rfl,?_⟩;refine ⟨_,rfl,?_⟩);(refine HqG rfl rfl ?_;refine FK (Ac rfl) (Ac rfl) rfl rfl ?_;(repeat ((first | refine ⟨_,AW (ah rfl),?_⟩ | refine ⟨_,Po rfl,?_⟩);refine ⟨_,rfl,?_⟩));refine ⟨_,rfl,?_⟩;refine ⟨_,rfl,?_⟩);(refine HqG rfl rfl ?_;refine Cl (Ac rfl) (Ac rfl) rfl rfl rfl rfl rfl ?_;(repeat ((first | refine ⟨_,AW (ah rfl),?_⟩ | refine ⟨_,Po rfl,?_⟩);refine ⟨_,rfl,?_⟩));refine ⟨_,rfl,?_⟩;refine ⟨_,rfl,?_⟩);refine Xg (Ad (Lb [mz,my] (by decide))) ?_;refine Xq AM ?_;refine ⟨_,rfl,?_⟩
 refine Wa<|Y0<|Am ?_
 exact Yf
theorem HK{P:Program}{hp:List Ow}{arg:Operand->AV}{dd:Option Tmp}{ty:TypeId}{ps:String}{af:Array Edge}{gd:Option (Nat×Bool)}{T U:TypeId}{x y:Operand}{k:IntKind}{a b:Nat}(hx:arg x = .d (ex (.int k (a:Nat))))(hy:arg y = .d (ex (.int k (b:Nat))))(hb:0<b):Quiet P hp ⟨dd,.binOp .rem T x y U,ty,ps,af,gd⟩ arg (.d (ex (.int k ((a%b:Nat):Int)))):=by
 have:=A3y (dd:=dd) (T:=T) (U:=U) (ty:=ty) (ps:=ps) (af:=af) (gd:=gd) (hp:=hp) (P:=P) hx hy (by omega) (by omega)
 rwa [<-Int.natCast_emod] at this
def pwM(k:Nat)(e:Int):Nat->Int:=HV (λ_=>0) k e
abbrev R4:=Nat->Nat
def r4C(r:R4):List D:=[ex (.int .u8 ((r 0:Nat):Int)),ex (.int .u8 ((r 1:Nat):Int)),ex (.int .u8 ((r 2:Nat):Int)),ex (.int .u8 ((r 3:Nat):Int))]
def r4D(T:Nat)(X:List R4):D:=slD T 4 (X.map r4C)
instance A4P:Inhabited R4:=⟨λ_=>0⟩
abbrev SH(X:List R4)(k:Nat):R4:=X.getD k default
def RH(r:R4):Prop:=∀j,j<4->r j<256
theorem Ub{r:R4}{k:Nat}(h:k<4):CellAt ((r4C r).drop (k*1)) 0 (ex (.int .u8 ((r k:Nat):Int))):=by
 have:k=0\/k=1\/k=2\/k=3:=by omega
 rcases this with rfl | rfl | rfl | rfl<;>exact ⟨by simp [r4C],rfl⟩
theorem Gm{P:Program}{hp:List Ow}{arg:Operand->AV}{dd:Option Tmp}{ty:TypeId}{ps:String}{af:Array Edge}{gd:Option (Nat×Bool)}{S T:TypeId}{x:Operand}{k:IntKind}{a:Nat}{d:TypeDesc}{n b n' b':Nat}{z z':Value}(hx:arg x = .d (ex (.int k (a:Nat))))(hS:Tab P S d n b z)(hT:Tab P T (.int .i64) n' b' z')(h:a<256):Quiet P hp ⟨dd,.convert S T x,ty,ps,af,gd⟩ arg (.d (ex (.int .i64 (a:Nat)))):=HP hx hS hT (by omega) (by omega)
def mdM(n top:Nat)(r:R4)(j:Nat):Int:=if j<n/\j<4 then ((r j%(top+1):Nat):Int) else 0
def mdT(top:Nat)(r:R4)(k j:Nat):Int:=if j<k then ((r j%(top+1):Nat):Int) else 0
theorem Zt(top:Nat)(r:R4):mdT top r 0=λ_=>0:=funext λj=>if_neg (by omega)
theorem A1y(top:Nat)(r:R4)(k:Nat):HV (mdT top r k) k ((r k%(top+1):Nat):Int)=mdT top r (k+1):=by
 funext j
 unfold HV mdT
 by_cases h:j=k
 .subst h
  rw [if_pos rfl,if_pos (by omega)]
 .rw [if_neg h]
  by_cases h2:j<k
  .rw [if_pos h2,if_pos (by omega)]
  .rw [if_neg h2,if_neg (by omega)]
theorem Vc(n top:Nat)(r:R4):mdT top r (min n 4)=mdM n top r:=by
 funext j
 unfold mdT mdM
 by_cases h:j<n/\j<4
 .rw [if_pos h,if_pos (by omega)]
 .rw [if_neg h,if_neg (by omega)]
def Ki(X:List R4)(n most top:Nat):Ai:=(X.take most).map (mdM n top)
theorem Qu{X:List R4}{n top k:Nat}(h:k<X.length):Ki X n k top++[mdM n top (SH X k)]=Ki X n (k+1) top:=by
 unfold Ki
 rw [List.take_add_one,List.getElem?_eq_getElem h,List.map_append]
 have:SH X k=X[k]:=by
  rw [SH,List.getD_eq_getElem?_getD,List.getElem?_eq_getElem h]
  rfl
 rw [this]
 rfl
theorem KQ(X:List R4)(n k top:Nat):(Ki X n k top).length<=k:=by
 unfold Ki
 rw [List.length_map,List.length_take]
 exact Nat.min_le_left _ _
theorem A0H(T:Nat)(X:List R4)(n most top:Nat)(hX:∀r∈X,RH r)(hn:n<=1000)(hm:most<=1000)(ht:top<=1000):Abs Tryz.prog 13 [r4D T X,ex (.int .i64 (n:Nat)),ex (.int .i64 (most:Nat)),ex (.int .i64 (top:Nat))] (AZ (Ki X n most top)):=by
 have hd:D.le (slD 55 8 ((Ki X n (min X.length most) top).map AK)) (AZ (Ki X n most top)):=by
  refine BJ ?_
  have:Ki X n (min X.length most) top=Ki X n most top:=by
   unfold Ki
   by_cases h:X.length<=most
   .rw [Nat.min_eq_left h,List.take_of_length_le (Nat.le_refl _),List.take_of_length_le h]
   .rw [Nat.min_eq_right (by omega)]
  rw [this]
  rfl
 refine Ab Tryz.func13 λs0=>?_
 rw [Tryz.ntmps13]
 refine Y1<|Wa<|Y0<|Y1 ?_;refine CW (Ac rfl) (Ac rfl) rfl rfl rfl rfl rfl ?_;refine Wa<|Y0<|Aa<|Y1<|Wa<|Y0<|AWp.block ?_
 refine AC (λmz σ=>∃k,k<=min X.length most/\mz=min X.length most-k/\σ=⟨[(0,.d (r4D T X)),(1,.d (ex (.int .i64 (n:Nat)))),(2,.d (ex (.int .i64 (most:Nat)))),(3,.d (ex (.int .i64 (top:Nat)))),(9,.own 0),(10,.d (ex (.int .i64 (k:Nat))))],[.row 55 8 ((Ki X n k top).map AK)]⟩) ?le ⟨0,by omega,rfl,rfl⟩ ?round
 case le=>exact Ah (by exact Yd<|Yd<|Yd<|Yd<|FrLe.cons rfl (AVle.own rfl)<|Yd<|FrLe.nil) (by exact Yr<|HpLe.nil)
 case round=>
  rintro mz _ ⟨k,hk,rfl,rfl⟩
  by_cases hlt:k<min X.length most
  .have hkl:k<X.length:=by omega
   have hkm:((k:Nat):Int)<((most:Nat):Int):=by omega
   have hkx:((k:Nat):Int)<((X.length:Nat):Int):=by omega
   have hml:=KQ X n k top
   have hr:RH (SH X k):=hX _ (by
    rw [SH,List.getD_eq_getElem?_getD,List.getElem?_eq_getElem hkl]
    exact List.getElem_mem hkl)
   refine Aa<|Y1<|Wm<|Wm ?_;refine Wq AR ?_;refine Wq Ak ?_;refine Wm ?_;refine Wg Af ?_;refine Wg Af ?_;refine Wg Ak ?_;refine Wq AM ?_;refine Y0<|Ct<|Ys<|Aa<|AWp.block<|Y1 ?_;(refine CD rfl rfl ?_;(refine FK (Ac rfl) (Ac rfl) rfl rfl ?_;(repeat ((first | refine ⟨_,AW (ao rfl),?_⟩ | refine ⟨_,Po rfl,?_⟩);refine ⟨_,rfl,?_⟩));refine ⟨_,rfl,?_⟩));refine Al ?_;refine Sf ?_;refine Y0<|Aa<|Y1<|Wa<|Y0<|AWp.block ?_
   refine AC (λmz σ=>∃i,i<=min n 4/\mz=min n 4-i/\σ=⟨[(0,.d (r4D T X)),(1,.d (ex (.int .i64 (n:Nat)))),(2,.d (ex (.int .i64 (most:Nat)))),(3,.d (ex (.int .i64 (top:Nat)))),(9,.own 0),(10,.d (ex (.int .i64 (k:Nat)))),(11,.ptr 1 0),(12,.d (ex (.int .i64 (i:Nat))))],[.row 55 8 ((Ki X n k top).map AK),.var 55 ((AK (mdT top (SH X k) i)).map .d)]⟩) ?lei ⟨0,by omega,rfl,rfl⟩ ?roundi
   case lei=>exact Ah (by exact Yd<|Yd<|Yd<|Yd<|FrLe.cons rfl (AVle.own rfl)<|Yd<|Yp<|Yd<|FrLe.nil) (by apply Yr;(refine HpLe.cons (CQ (by rw [Zt];rfl)) ?_);exact HpLe.nil)
   case roundi=>
    rintro mz _ ⟨i,hi,rfl,rfl⟩
    by_cases hlti:i<min n 4
    .have hi4:i<4:=by omega
     have hi8:i<8:=by omega
     have hin:((i:Nat):Int)<((n:Nat):Int):=by omega
     have hr1:=hr i hi4
     refine Aa<|Y1<|Wm<|Wm ?_;refine Wq Ak ?_;refine Wm ?_;refine Wg Af ?_;refine Wg Ak ?_;refine Wq AM ?_;refine Y0<|Ct<|Ys<|Aa<|AWp.block<|AWp.region<|Wm<|Wm<|Wm<|Wm ?_;refine Wq AE ?_;refine Wq A0r ?_;refine Wq (RS (ao rfl) (Ac rfl) rfl (Ub hi4)) ?_;refine Wq (Gm (ao rfl) (Ac rfl) (Ac rfl) hr1) ?_;refine Wm ?_;refine Wq AD ?_;refine Wq (HK (a:=SH X k i) (b:=top+1) (ao rfl) (ao rfl) (by omega)) ?_;refine Wq BE ?_;(refine DW (ao rfl) (ao rfl) rfl (Ac rfl) (by first | exact CH rfl | exact One.sl | exact Ei) (SetAt.mon (by first | omega | (simp;omega))) rfl ?_);refine AWl.nil<|Ag<|Yn<|AWp.region<|Wm ?_;refine Wq AD ?_;refine Wa<|AWl.nil ?_
     refine ALoop.next (min n 4-(i+1)) (by omega) ⟨i+1,by omega,rfl,rfl⟩ ?_
     exact Ah (by exact Yd<|Yd<|Yd<|Yd<|FrLe.cons rfl (AVle.own rfl)<|Yd<|Yp<|Yd<|FrLe.nil) (by exact Yr<|HpLe.cons (CQ (by rw [A1y]))<|HpLe.nil)
    .have hi8:¬(((i:Nat):Int)<((n:Nat):Int)/\((i:Nat):Int)<4):=by omega
     obtain rfl:i=min n 4:=by omega
     by_cases h4:n<=4
     .have h5:¬((min n 4:Nat):Int)<((n:Nat):Int):=by omega
      refine Aa<|Y1<|Wm<|Wm ?_;refine Wq Aj ?_;refine Wm ?_;refine Ws ?_;refine Ws ?_;refine Wq Bc ?_;refine Y0<|Cf<|AA<|Aq<|Ar<|ABlock.hit<|Yn<|AWp.region<|Wm ?_;refine Wq At ?_;refine Wq (BF (ao rfl) (Ac rfl) (Ac rfl) rfl rfl rfl rfl rfl) ?_;(refine Ap ?_);refine Wa<|AWl.nil<|Ag<|Yn<|AWp.region<|Wm ?_;refine Wq AD ?_;refine Wa<|AWl.nil ?_
      rw [Vc]
      skip
      refine ALoop.next (min X.length most-(k+1)) (by omega) ⟨k+1,by omega,rfl,rfl⟩ ?_
      exact Ah (by exact Yd<|Yd<|Yd<|Yd<|FrLe.cons rfl (AVle.own rfl)<|Yd<|FrLe.nil) (by refine HpLe.cons (Ca ((CJ AK _ _).trans (by rw [Qu hkl]))) ?_;exact HpLe.nil)
     .have h5:((min n 4:Nat):Int)<((n:Nat):Int):=by omega
      have h6:¬((min n 4:Nat):Int)<4:=by omega
      refine Aa<|Y1<|Wm<|Wm ?_;refine Wq Ak ?_;refine Wm ?_;refine Wg Af ?_;refine Wg Aj ?_;refine Wq AM ?_;refine Y0<|Cf<|AA<|Aq<|Ar<|ABlock.hit<|Yn<|AWp.region<|Wm ?_;refine Wq At ?_;refine Wq (BF (ao rfl) (Ac rfl) (Ac rfl) rfl rfl rfl rfl rfl) ?_;(refine Ap ?_);refine Wa<|AWl.nil<|Ag<|Yn<|AWp.region<|Wm ?_;refine Wq AD ?_;refine Wa<|AWl.nil ?_
      rw [Vc]
      skip
      refine ALoop.next (min X.length most-(k+1)) (by omega) ⟨k+1,by omega,rfl,rfl⟩ ?_
      exact Ah (by exact Yd<|Yd<|Yd<|Yd<|FrLe.cons rfl (AVle.own rfl)<|Yd<|FrLe.nil) (by refine HpLe.cons (Ca ((CJ AK _ _).trans (by rw [Qu hkl]))) ?_;exact HpLe.nil)
  .obtain rfl:k=min X.length most:=by omega
   by_cases h4:X.length<=most
   .have h5:¬((min X.length most:Nat):Int)<((X.length:Nat):Int):=by omega
    refine Aa<|Y1<|Wm<|Wm ?_;refine Wq AR ?_;refine Wq Aj ?_;refine Wm ?_;refine Ws ?_;refine Ws ?_;refine Ws ?_;refine Wq Bc ?_;refine Y0<|Cf<|AA<|Aq<|Ar<|ABlock.hit<|Yn<|Y1<|Wm<|Wa<|Y0<|Am ?_
    exact AN (Rets.of1 (ResV.tmp rfl rfl) (hd))
   .have h5:((min X.length most:Nat):Int)<((X.length:Nat):Int):=by omega
    have h6:¬((min X.length most:Nat):Int)<((most:Nat):Int):=by omega
    refine Aa<|Y1<|Wm<|Wm ?_;refine Wq AR ?_;refine Wq Ak ?_;refine Wm ?_;refine Wg Af ?_;refine Wg Af ?_;refine Wg Aj ?_;refine Wq AM ?_;refine Y0<|Cf<|AA<|Aq<|Ar<|ABlock.hit<|Yn<|Y1<|Wm<|Wa<|Y0<|Am ?_
    exact AN (Rets.of1 (ResV.tmp rfl rfl) (hd))
def inD(T:Nat)(X:List R4)(m:Nat):D:=Bb [r4D T X,ex (.int .u8 (m:Nat))]
theorem XQ{P:Program}{hp:List Ow}{arg:Operand->AV}{dd:Option Tmp}{ty:TypeId}{ps:String}{af:Array Edge}{gd:Option (Nat×Bool)}{S T:TypeId}{x:Operand}{k:IntKind}{a c:Nat}{d:TypeDesc}{n b n' b':Nat}{z z':Value}(hx:arg x = .d (ex (.int k ((a%c:Nat):Int))))(hS:Tab P S d n b z)(hT:Tab P T (.int .i64) n' b' z')(h:a<256):Quiet P hp ⟨dd,.convert S T x,ty,ps,af,gd⟩ arg (.d (ex (.int .i64 ((a%c:Nat):Int)))):=HP hx hS hT (by omega) (by have:=Nat.mod_le a c;omega)
theorem Ym(T:Nat)(X:List R4)(m:Nat)(hm:m<256):Abs Tryz.prog 12 [inD T X m] (ex (.int .i64 ((m%5:Nat):Int))):=by
 refine Ab Tryz.func12 λs0=>?_
 rw [Tryz.ntmps12]
 apply Y1;refine Bx ?_;refine Wa<|Y0<|Y1 ?_;refine Wq AL ?_;refine Wq AQ ?_;refine Wq (HK (a:=m) (b:=5) (ao rfl) (ao rfl) (by decide)) ?_;refine Wq (XQ (ao rfl) (Ac rfl) (Ac rfl) hm) ?_;refine Wa<|Y0<|Am ?_
 exact Yf
def okB(m z:Nat->Int):Bool:=HA z m || !GH 8 0 z m
def MN(m:Nat->Int)(L:Ai):Bool:=L.all (okB m)
theorem A1A{m:Nat->Int}{L:Ai}(h:∀j,j<L.length->okB m (AH L j)=true):MN m L=true:=by
 unfold MN
 rw [List.all_eq_true]
 intro z hz
 obtain ⟨j,hj,rfl⟩:=List.getElem_of_mem hz
 have:=h j hj
 rwa [AH,List.getD_eq_getElem?_getD,List.getElem?_eq_getElem hj] at this
theorem A3c{m:Nat->Int}{L:Ai}{j:Nat}(hj:j<L.length)(h:okB m (AH L j)=false):MN m L=false:=by
 rw [AH,List.getD_eq_getElem?_getD,List.getElem?_eq_getElem hj] at h
 have h:okB m L[j]=false:=h
 refine Bool.eq_false_iff.2 λh2=>?_
 have:=List.all_eq_true.1 h2 L[j] (List.getElem_mem hj)
 rw [h] at this
 cases this
theorem SX(m:Nat->Int)(L:Ai)(hL:L.length<=1000000):Abs Tryz.prog 99 [Bb (AK m),AZ L] (ex (.bool (MN m L))):=by
 refine Ab Tryz.func99 λs0=>?_
 rw [Tryz.ntmps99]
 apply Y1;refine Bx ?_;refine Wa<|Y0<|Aa<|Y1<|Wa<|Y0<|AWp.block ?_
 refine AC (λmz σ=>∃k,k<=L.length/\(∀j,j<k->okB m (AH L j)=true)/\mz=L.length-k/\σ=⟨[(1,.d (AZ L)),(2,.ptr 0 0),(5,.d (ex (.int .i64 (k:Nat))))],[.var 55 ((AK m).map .d)]⟩) ?le ⟨0,by omega,λj hj=>absurd hj (Nat.not_lt_zero j),rfl,rfl⟩ ?round
 case le=>exact Ah (by exact Yd<|Yp<|Yd<|FrLe.nil) (by exact Yv<|HpLe.nil)
 case round=>
  rintro mz _ ⟨k,hk,hok,rfl,rfl⟩
  by_cases hlt:k<L.length
  .have cd:=KH (AH L k) m
   cases he:HA (AH L k) m
   .cases hd:GH 8 0 (AH L k) m
    .rw [hd] at cd
     refine Aa<|Y1<|Wm<|Wm ?_;refine Wq AR ?_;refine Wq Ak ?_;refine Y0<|Ct<|Ys<|Aa<|AWp.block<|Aa ?_
     refine Dr [[],[],[(12,0),(13,1)],[(14,2)],[],[(15,3),(16,4)],[(17,5)],[],[],[(19,7),(20,8)],[(21,9)],[],[(22,10),(23,11)],[(18,6),(24,12)]] [[],[],[0,1],[0,1,2],[],[0,1,2,3,4],[0,1,2,3,4,5],[0,1,2,3,4,5,6],[0,1,2,3,4,5,6],[0,1,2,3,4,5,6,7,8],[0,1,2,3,4,5,6,7,8,9],[0,1,2,3,4,5,6],[0,1,2,3,4,5,6,7,8,9,10,11],[0,1,2,3,4,5,6,7,8,9,10,11,12]] ?_
     refine Xq Af ?_;refine Xq Af ?_;refine Xq AE ?_;refine Xq AB ?_;refine Xq At ?_;(refine Xq (HL (a:=AH L k) (b:=m) (ah rfl) (ah rfl) he) ?_);refine Xq Af ?_;refine Xg Af ?_;refine Xg Af ?_;refine Xg AE ?_;refine Xg AB ?_;refine Xg At ?_;refine Xg (Ad (cd)) ?_;refine Xq AM ?_;refine ⟨_,rfl,?_⟩
     refine Y0<|Cf<|AWp.skip<|Ag<|Yn<|AWp.region<|Wm ?_;refine Wq AD ?_;refine Wa<|AWl.nil ?_
     refine ALoop.next (L.length-(k+1)) (by omega) ⟨k+1,by omega,?_,rfl,rfl⟩ ?_
     .intro j hj
      by_cases hjk:j=k
      .subst hjk
       rw [okB,he,hd]
       rfl
      .exact hok j (by omega)
     .exact Ah (by exact Yd<|Yp<|Yd<|FrLe.nil) (by exact Yv<|HpLe.nil)
    .rw [hd] at cd
     have hno:MN m L=false:=A3c hlt (by rw [okB,he,hd];rfl)
     rw [hno]
     refine Aa<|Y1<|Wm<|Wm ?_;refine Wq AR ?_;refine Wq Ak ?_;refine Y0<|Ct<|Ys<|Aa<|AWp.block<|Aa ?_
     refine Dr [[],[],[(12,0),(13,1)],[(14,2)],[],[(15,3),(16,4)],[(17,5)],[],[],[(19,7),(20,8)],[(21,9)],[],[(22,10),(23,11)],[(18,6),(24,12)]] [[],[],[0,1],[0,1,2],[],[0,1,2,3,4],[0,1,2,3,4,5],[0,1,2,3,4,5,6],[0,1,2,3,4,5,6],[0,1,2,3,4,5,6,7,8],[0,1,2,3,4,5,6,7,8,9],[0,1,2,3,4,5,6],[0,1,2,3,4,5,6,7,8,9,10,11],[0,1,2,3,4,5,6,7,8,9,10,11,12]] ?_
     refine Xq Af ?_;refine Xq Af ?_;refine Xq AE ?_;refine Xq AB ?_;refine Xq At ?_;(refine Xq (HL (a:=AH L k) (b:=m) (ah rfl) (ah rfl) he) ?_);refine Xq Af ?_;refine Xg Af ?_;refine Xg Af ?_;refine Xg AE ?_;refine Xg AB ?_;refine Xg At ?_;refine Xg (Ad (cd)) ?_;refine Xq AM ?_;refine ⟨_,rfl,?_⟩
     refine Y0<|Ct<|Y1<|Wa<|Y0<|Am<|Bw<|AP<|Di<|Bw<|AP ?_
     exact Yf
   .refine Aa<|Y1<|Wm<|Wm ?_;refine Wq AR ?_;refine Wq Ak ?_;refine Y0<|Ct<|Ys<|Aa<|AWp.block<|Aa ?_
    refine Dr [[],[],[(12,0),(13,1)],[(14,2)],[],[(15,3),(16,4)],[(17,5)],[],[],[(19,7),(20,8)],[(21,9)],[],[(22,10),(23,11)],[(18,6),(24,12)]] [[],[],[0,1],[0,1,2],[],[0,1,2,3,4],[0,1,2,3,4,5],[0,1,2,3,4,5,6],[0,1,2,3,4,5,6],[0,1,2,3,4,5,6,7,8],[0,1,2,3,4,5,6,7,8,9],[0,1,2,3,4,5,6],[0,1,2,3,4,5,6,7,8,9,10,11],[0,1,2,3,4,5,6,7,8,9,10,11,12]] ?_
    refine Xq Af ?_;refine Xq Af ?_;refine Xq AE ?_;refine Xq AB ?_;refine Xq At ?_;(refine Xq (HM (a:=AH L k) (b:=m) (ah rfl) (ah rfl) he) ?_);refine Xq Af ?_;refine Xs ?_;refine Xs ?_;refine Xs ?_;refine Xs ?_;refine Xs ?_;refine Xs ?_;refine Xq Bc ?_;refine ⟨_,rfl,?_⟩
    refine Y0<|Cf<|AWp.skip<|Ag<|Yn<|AWp.region<|Wm ?_;refine Wq AD ?_;refine Wa<|AWl.nil ?_
    refine ALoop.next (L.length-(k+1)) (by omega) ⟨k+1,by omega,?_,rfl,rfl⟩ ?_
    .intro j hj
     by_cases hjk:j=k
     .subst hjk
      rw [okB,he]
      rfl
     .exact hok j (by omega)
    .exact Ah (by exact Yd<|Yp<|Yd<|FrLe.nil) (by exact Yv<|HpLe.nil)
  .obtain rfl:k=L.length:=by omega
   rw [A1A hok]
   refine Aa<|Y1<|Wm<|Wm ?_;refine Wq AR ?_;refine Wq Aj ?_;refine Y0<|Cf<|AA<|Aq<|Ar<|ABlock.hit<|Yn<|Y1<|Wa<|Y0<|Am ?_
   exact Yf
def Dk(m:Nat->Int):Ai->Ai
 | []=>[m]
 | y::l=>if 0<=DY m y then (if HA y m=true then y::l else m::y::l) else y::Dk m l
theorem QN(m:Nat->Int):∀L:Ai,(Dk m L).length<=L.length+1
 | []=>Nat.le_refl 1
 | y::l=>by
  have:=QN m l
  unfold Dk
  split
  .split<;>simp
  .simp only [List.length_cons]
   omega
theorem FU{L:Ai}{k:Nat}(h:k<L.length):L.drop k=AH L k::L.drop (k+1):=by
 rw [List.drop_eq_getElem_cons h,AH,List.getD_eq_getElem?_getD,List.getElem?_eq_getElem h]
 rfl
def InsI(m:Nat->Int)(L:Ai)(k:Nat)(d:Bool)(o:Ai):Prop:=if d=true then o++L.drop k=Dk m L else o++Dk m (L.drop k)=Dk m L
theorem InsI.keepT{m:Nat->Int}{L o:Ai}{k:Nat}(h:InsI m L k true o)(hk:k<L.length):InsI m L (k+1) true (o++[AH L k]):=by
 have h:o++L.drop k=Dk m L:=h
 show o++[AH L k]++L.drop (k+1)=Dk m L
 rw [List.append_assoc,List.singleton_append,<-FU hk,h]
theorem InsI.keepF{m:Nat->Int}{L o:Ai}{k:Nat}(h:InsI m L k false o)(hk:k<L.length)(hc:DY m (AH L k)<0):InsI m L (k+1) false (o++[AH L k]):=by
 have h:o++Dk m (L.drop k)=Dk m L:=h
 rw [FU hk,Dk,if_neg (by omega)] at h
 show o++[AH L k]++Dk m (L.drop (k+1))=Dk m L
 rw [List.append_assoc,List.singleton_append,h]
theorem InsI.hit{m:Nat->Int}{L o:Ai}{k:Nat}(h:InsI m L k false o)(hk:k<L.length)(hc:0<=DY m (AH L k))(he:HA (AH L k) m=true):InsI m L (k+1) true (o++[AH L k]):=by
 have h:o++Dk m (L.drop k)=Dk m L:=h
 rw [FU hk,Dk,if_pos hc,if_pos he] at h
 show o++[AH L k]++L.drop (k+1)=Dk m L
 rw [List.append_assoc,List.singleton_append,h]
theorem InsI.put{m:Nat->Int}{L o:Ai}{k:Nat}(h:InsI m L k false o)(hk:k<L.length)(hc:0<=DY m (AH L k))(he:HA (AH L k) m=false):InsI m L (k+1) true (o++[m]++[AH L k]):=by
 have h:o++Dk m (L.drop k)=Dk m L:=h
 rw [FU hk,Dk,if_pos hc,if_neg (by rw [he];exact Bool.false_ne_true)] at h
 show o++[m]++[AH L k]++L.drop (k+1)=Dk m L
 rw [<-h]
 simp
theorem InsI.doneT{m:Nat->Int}{L o:Ai}(h:InsI m L L.length true o):o=Dk m L:=by
 have h:o++L.drop L.length=Dk m L:=h
 rwa [List.drop_length,List.append_nil] at h
theorem InsI.doneF{m:Nat->Int}{L o:Ai}(h:InsI m L L.length false o):o++[m]=Dk m L:=by
 have h:o++Dk m (L.drop L.length)=Dk m L:=h
 rwa [List.drop_length] at h
theorem Tb(m:Nat->Int)(L:Ai)(hL:L.length<=1000000):Abs Tryz.prog 100 [AZ L,Bb (AK m)] (AZ (Dk m L)):=by
 refine Ab Tryz.func100 λs0=>?_
 rw [Tryz.ntmps100]
 apply Y1;refine Bx ?_;refine Wa<|Y0<|Y1 ?_;refine CW (Ac rfl) (Ac rfl) rfl rfl rfl rfl rfl ?_;refine Wa<|Y0<|Y1<|Wa<|Y0<|Aa<|Y1<|Wa<|Y0<|AWp.block ?_
 refine AC (λmz σ=>∃k d o,k<=L.length/\o.length<=k+d.toNat/\InsI m L k d o/\mz=L.length-k/\σ=⟨[(0,.d (AZ L)),(3,.ptr 0 0),(5,.own 1),(6,.d (ex (.bool d))),(7,.d (ex (.int .i64 (k:Nat))))],[.var 55 ((AK m).map .d),.row 55 8 (o.map AK)]⟩) ?le ⟨0,false,[],by omega,by simp,rfl,rfl,rfl⟩ ?round
 case le=>exact Ah (by exact Yd<|Yp<|FrLe.cons rfl (AVle.own rfl)<|Yd<|Yd<|FrLe.nil) (by exact Yv<|Yr<|HpLe.nil)
 case round=>
  rintro mz _ ⟨k,d,o,hk,ho,hi,rfl,rfl⟩
  by_cases hlt:k<L.length
  .have cc:=NQ m (AH L k)
   cases d
   .have ho:o.length<=k:=ho
    by_cases hc:0<=DY m (AH L k)
    .cases he:HA (AH L k) m
     .refine Aa<|Y1<|Wm<|Wm ?_;refine Wq AR ?_;refine Wq Ak ?_;refine Y0<|Ct<|Ys<|Aa<|AWp.block<|Aa<|Aa ?_
      refine Dr [[],[(15,0)],[(16,1)],[],[],[],[(19,4),(20,5)],[(21,6)],[(18,3),(22,7)],[(23,8)],[(17,2),(24,9)]] [[],[0],[0,1],[0,1,2],[0,1,2],[0,1,2],[0,1,2,4,5],[0,1,2,4,5,6],[0,1,2,3,4,5,6,7],[0,1,2,3,4,5,6,7,8],[0,1,2,3,4,5,6,7,8,9]] ?_
      refine Xq Af ?_;refine Xq BH ?_;refine Xq Af ?_;refine Xg At ?_;refine Xg Af ?_;refine Xg Af ?_;refine Xg AE ?_;refine Xg AB ?_;refine Xg (Ad (cc)) ?_;refine Xg Ak ?_;refine Xq AM ?_;refine ⟨_,rfl,?_⟩
      refine Y0<|Ct<|Y1<|Wa<|Y0<|Aa ?_
      refine Dr [[],[],[(26,0),(27,1)],[(28,2)],[],[(29,3),(30,4)]] [[],[],[0,1],[0,1,2],[],[0,1,2,3,4]] ?_
      refine Xq Af ?_;refine Xq Af ?_;refine Xq AE ?_;refine Xq AB ?_;refine Xq At ?_;(refine Xq (HL (a:=AH L k) (b:=m) (ah rfl) (ah rfl) he) ?_);refine ⟨_,rfl,?_⟩
      refine Y0<|Ct<|AWp.region<|Wm ?_;refine Wq At ?_;refine Wq (BF (ao rfl) (Ac rfl) (Ac rfl) rfl rfl rfl rfl rfl) ?_;(refine Ap ?_);refine Wa<|Y0<|AWp.region<|Wm<|Wm<|Wm ?_;refine Wq AE ?_;refine Wq AB ?_;refine Wq (BF (ao rfl) (Ac rfl) (Ac rfl) rfl rfl rfl rfl rfl) ?_;(refine Ap ?_);refine Wa<|AWl.nil<|Ag<|Yn<|AWp.region<|Wm ?_;refine Wq AD ?_;refine Wa<|AWl.nil ?_
      refine ALoop.next (L.length-(k+1)) (by omega) ⟨k+1,true,o++[m]++[AH L k],by omega,by simp;omega,hi.put hlt hc he,rfl,rfl⟩ ?_
      exact Ah (by exact Yd<|Yp<|FrLe.cons rfl (AVle.own rfl)<|Yd<|Yd<|FrLe.nil) (by apply Yv;refine HpLe.cons (Ca ((congrArg (· ++ [AK (AH L k)]) (CJ AK o m)).trans (CJ AK _ (AH L k)))) ?_;exact HpLe.nil)
     .refine Aa<|Y1<|Wm<|Wm ?_;refine Wq AR ?_;refine Wq Ak ?_;refine Y0<|Ct<|Ys<|Aa<|AWp.block<|Aa<|Aa ?_
      refine Dr [[],[(15,0)],[(16,1)],[],[],[],[(19,4),(20,5)],[(21,6)],[(18,3),(22,7)],[(23,8)],[(17,2),(24,9)]] [[],[0],[0,1],[0,1,2],[0,1,2],[0,1,2],[0,1,2,4,5],[0,1,2,4,5,6],[0,1,2,3,4,5,6,7],[0,1,2,3,4,5,6,7,8],[0,1,2,3,4,5,6,7,8,9]] ?_
      refine Xq Af ?_;refine Xq BH ?_;refine Xq Af ?_;refine Xg At ?_;refine Xg Af ?_;refine Xg Af ?_;refine Xg AE ?_;refine Xg AB ?_;refine Xg (Ad (cc)) ?_;refine Xg Ak ?_;refine Xq AM ?_;refine ⟨_,rfl,?_⟩
      refine Y0<|Ct<|Y1<|Wa<|Y0<|Aa ?_
      refine Dr [[],[],[(26,0),(27,1)],[(28,2)],[],[(29,3),(30,4)]] [[],[],[0,1],[0,1,2],[],[0,1,2,3,4]] ?_
      refine Xq Af ?_;refine Xq Af ?_;refine Xq AE ?_;refine Xq AB ?_;refine Xq At ?_;(refine Xq (HM (a:=AH L k) (b:=m) (ah rfl) (ah rfl) he) ?_);refine ⟨_,rfl,?_⟩
      refine Y0<|Cf<|Ys<|AWp.region<|Wm<|Wm<|Wm ?_;refine Wq AE ?_;refine Wq AB ?_;refine Wq (BF (ao rfl) (Ac rfl) (Ac rfl) rfl rfl rfl rfl rfl) ?_;(refine Ap ?_);refine Wa<|AWl.nil<|Ag<|Yn<|AWp.region<|Wm ?_;refine Wq AD ?_;refine Wa<|AWl.nil ?_
      refine ALoop.next (L.length-(k+1)) (by omega) ⟨k+1,true,o++[AH L k],by omega,by simp;omega,hi.hit hlt hc he,rfl,rfl⟩ ?_
      exact Ah (by exact Yd<|Yp<|FrLe.cons rfl (AVle.own rfl)<|Yd<|Yd<|FrLe.nil) (by apply Yv;refine HpLe.cons (Ca (CJ AK _ (AH L k))) ?_;exact HpLe.nil)
    .refine Aa<|Y1<|Wm<|Wm ?_;refine Wq AR ?_;refine Wq Ak ?_;refine Y0<|Ct<|Ys<|Aa<|AWp.block<|Aa<|Aa ?_
     refine Dr [[],[(15,0)],[(16,1)],[],[],[],[(19,4),(20,5)],[(21,6)],[(18,3),(22,7)],[(23,8)],[(17,2),(24,9)]] [[],[0],[0,1],[0,1,2],[0,1,2],[0,1,2],[0,1,2,4,5],[0,1,2,4,5,6],[0,1,2,3,4,5,6,7],[0,1,2,3,4,5,6,7,8],[0,1,2,3,4,5,6,7,8,9]] ?_
     refine Xq Af ?_;refine Xq BH ?_;refine Xq Af ?_;refine Xg At ?_;refine Xg Af ?_;refine Xg Af ?_;refine Xg AE ?_;refine Xg AB ?_;refine Xg (Ad (cc)) ?_;refine Xg Aj ?_;refine Xq AM ?_;refine ⟨_,rfl,?_⟩
     refine Y0<|Cf<|Ys<|AWp.region<|Wm<|Wm<|Wm ?_;refine Wq AE ?_;refine Wq AB ?_;refine Wq (BF (ao rfl) (Ac rfl) (Ac rfl) rfl rfl rfl rfl rfl) ?_;(refine Ap ?_);refine Wa<|AWl.nil<|Ag<|Yn<|AWp.region<|Wm ?_;refine Wq AD ?_;refine Wa<|AWl.nil ?_
     refine ALoop.next (L.length-(k+1)) (by omega) ⟨k+1,false,o++[AH L k],by omega,by simp;omega,hi.keepF hlt (by omega),rfl,rfl⟩ ?_
     exact Ah (by exact Yd<|Yp<|FrLe.cons rfl (AVle.own rfl)<|Yd<|Yd<|FrLe.nil) (by apply Yv;refine HpLe.cons (Ca (CJ AK _ (AH L k))) ?_;exact HpLe.nil)
   .have ho:o.length<=k+1:=ho
    refine Aa<|Y1<|Wm<|Wm ?_;refine Wq AR ?_;refine Wq Ak ?_;refine Y0<|Ct<|Ys<|Aa<|AWp.block<|Aa<|Aa ?_
    refine Dr [[],[(15,0)],[(16,1)],[],[],[],[(19,4),(20,5)],[(21,6)],[(18,3),(22,7)],[(23,8)],[(17,2),(24,9)]] [[],[0],[0,1],[0,1,2],[0,1,2],[0,1,2],[0,1,2,4,5],[0,1,2,4,5,6],[0,1,2,3,4,5,6,7],[0,1,2,3,4,5,6,7,8],[0,1,2,3,4,5,6,7,8,9]] ?_
    refine Xq Af ?_;refine Xq BH ?_;refine Xq Af ?_;refine Xs ?_;refine Xs ?_;refine Xs ?_;refine Xs ?_;refine Xs ?_;refine Xs ?_;refine Xs ?_;refine Xq Bc ?_;refine ⟨_,rfl,?_⟩
    refine Y0<|Cf<|Ys<|AWp.region<|Wm<|Wm<|Wm ?_;refine Wq AE ?_;refine Wq AB ?_;refine Wq (BF (ao rfl) (Ac rfl) (Ac rfl) rfl rfl rfl rfl rfl) ?_;(refine Ap ?_);refine Wa<|AWl.nil<|Ag<|Yn<|AWp.region<|Wm ?_;refine Wq AD ?_;refine Wa<|AWl.nil ?_
    refine ALoop.next (L.length-(k+1)) (by omega) ⟨k+1,true,o++[AH L k],by omega,by simp;omega,hi.keepT hlt,rfl,rfl⟩ ?_
    exact Ah (by exact Yd<|Yp<|FrLe.cons rfl (AVle.own rfl)<|Yd<|Yd<|FrLe.nil) (by apply Yv;refine HpLe.cons (Ca (CJ AK _ (AH L k))) ?_;exact HpLe.nil)
  .obtain rfl:k=L.length:=by omega
   cases d
   .have ho:o.length<=L.length:=ho
    refine Aa<|Y1<|Wm<|Wm ?_;refine Wq AR ?_;refine Wq Aj ?_;refine Y0<|Cf<|AA<|Aq<|Ar<|ABlock.hit<|Yn<|Aa<|Y1<|Wm ?_;refine Wq BH ?_;refine Y0<|Ct<|AWp.region<|Wm ?_;refine Wq At ?_;refine Wq (BF (ao rfl) (Ac rfl) (Ac rfl) rfl rfl rfl rfl rfl) ?_;(refine Ap ?_);refine Wa<|Y0<|Y1<|Wm<|Wa<|Y0<|Am ?_
    have hd:D.le (slD 55 8 (o.map AK++[AK m])) (AZ (Dk m L)):=BJ (by rw [<-hi.doneF,CJ];rfl)
    exact AN (Rets.of1 (ResV.tmp rfl rfl) (hd))
   .have hd:D.le (slD 55 8 (o.map AK)) (AZ (Dk m L)):=BJ (by rw [hi.doneT]; rfl)
    refine Aa<|Y1<|Wm<|Wm ?_;refine Wq AR ?_;refine Wq Aj ?_;refine Y0<|Cf<|AA<|Aq<|Ar<|ABlock.hit<|Yn<|Aa<|Y1<|Wm ?_;refine Wq BH ?_;refine Y0<|Cf<|Ys<|Y1<|Wm<|Wa<|Y0<|Am ?_
    exact AN (Rets.of1 (ResV.tmp rfl rfl) (hd))
def Fc(L:Ai):Nat->Ai
 | 0=>[]
 | k+1=>if MN (AH L k) L=true then Dk (AH L k) (Fc L k) else Fc L k
theorem Jh(L:Ai):∀k,(Fc L k).length<=k
 | 0=>Nat.le_refl 0
 | k+1=>by
  have h1:=Jh L k
  have h2:=QN (AH L k) (Fc L k)
  unfold Fc
  split<;>omega
theorem Jv(L:Ai)(hL:L.length<=100000):Abs Tryz.prog 50 [AZ L] (AZ (Fc L L.length)):=by
 refine Ab Tryz.func50 λs0=>?_
 rw [Tryz.ntmps50]
 refine Y1<|Wa<|Y0<|Y1 ?_;refine CW (Ac rfl) (Ac rfl) rfl rfl rfl rfl rfl ?_;refine Wa<|Y0<|Aa<|Y1<|Wa<|Y0<|AWp.block ?_
 refine AC (λmz σ=>∃k,k<=L.length/\mz=L.length-k/\σ=⟨[(0,.d (AZ L)),(3,.d (AZ (Fc L k))),(4,.d (ex (.int .i64 (k:Nat))))],[]⟩) ?le ⟨0,by omega,rfl,rfl⟩ ?round
 case le=>exact Ah (by exact Yd<|FrLe.cons rfl (Ef rfl (D.le.refl _))<|Yd<|FrLe.nil) (by exact HpLe.nil)
 case round=>
  rintro mz _ ⟨k,hk,rfl,rfl⟩
  by_cases hlt:k<L.length
  .have c1:=SX (AH L k) L (by omega)
   have hm:=Jh L k
   have c2:=Tb (AH L k) (Fc L k) (by omega)
   cases hb:MN (AH L k) L
   .have e:Fc L (k+1)=Fc L k:=by rw [Fc, if_neg (by rw [hb]; exact Bool.false_ne_true)]
    rw [hb] at c1
    refine Aa<|Y1<|Wm<|Wm ?_;refine Wq AR ?_;refine Wq Ak ?_;refine Y0<|Ct<|Ys<|Aa<|AWp.block<|Y1<|Wm<|Wm ?_;refine Wq AE ?_;refine Wq AB ?_;refine Wm ?_;refine Wq (Ad (c1)) ?_;refine Y0<|Cf<|AWp.skip<|Ag<|Yn<|AWp.region<|Wm ?_;refine Wq AD ?_;refine Wa<|AWl.nil ?_
    refine ALoop.next (L.length-(k+1)) (by omega) ⟨k+1,by omega,rfl,rfl⟩ ?_
    exact Ah (by exact Yd<|FrLe.cons rfl (AVle.d (by rw [e]))<|Yd<|FrLe.nil) (by exact HpLe.nil)
   .have e:Fc L (k+1)=Dk (AH L k) (Fc L k):=by rw [Fc, if_pos hb]
    rw [hb] at c1
    refine Aa<|Y1<|Wm<|Wm ?_;refine Wq AR ?_;refine Wq Ak ?_;refine Y0<|Ct<|Ys<|Aa<|AWp.block<|Y1<|Wm<|Wm ?_;refine Wq AE ?_;refine Wq AB ?_;refine Wm ?_;refine Wq (Ad (c1)) ?_;refine Y0<|Ct<|AWp.region<|Wm<|Wm<|Wm ?_;refine Wq AE ?_;refine Wq AB ?_;refine Wq (Ad (c2)) ?_;refine Wa<|AWl.nil<|Ag<|Yn<|AWp.region<|Wm ?_;refine Wq AD ?_;refine Wa<|AWl.nil ?_
    refine ALoop.next (L.length-(k+1)) (by omega) ⟨k+1,by omega,rfl,rfl⟩ ?_
    exact Ah (by exact Yd<|FrLe.cons rfl (AVle.d (by rw [e]))<|Yd<|FrLe.nil) (by exact HpLe.nil)
  .obtain rfl:k=L.length:=by omega
   refine Aa<|Y1<|Wm<|Wm ?_;refine Wq AR ?_;refine Wq Aj ?_;refine Y0<|Cf<|AA<|Aq<|Ar<|ABlock.hit<|Yn<|Y1<|Wm<|Wa<|Y0<|Am ?_
   exact Yf
theorem A2Y{a b:Nat->Int}(ha:In8 a 0 100000)(hb:In8 b 0 100000):Abs Tryz.prog 78 [Bb (AK a),Bb (AK (Qr a b))] (BC [Bb (AK (qM a b)),ex (.bool true)]):=
 YM a (Qr a b) (λj hj=>Int.min_le_left _ _) (λj hj=>⟨Int.le_min.2 ⟨(ha j hj).1,(hb j hj).1⟩,Int.le_trans (Int.min_le_left _ _) (ha j hj).2⟩) ha
theorem MM{a:Nat->Int}{l:Ai}{k:Nat}(h:k<l.length):(l.take k).map (λy=>qM y a)++[qM (AH l k) a]=(l.take (k+1)).map λy=>qM y a:=by
 rw [List.take_add_one,List.getElem?_eq_getElem h,List.map_append,AH,List.getD_eq_getElem?_getD,List.getElem?_eq_getElem h]
 rfl
theorem XX(L:Ai)(m:Nat->Int)(hL:L.length<=100000)(h1:∀y∈L,In8 y 0 100000)(h2:In8 m 0 100000):Abs Tryz.prog 35 [AZ L,Bb (AK m)] (AZ (Fc (L.map λy=>qM y m) (L.map λy=>qM y m).length)):=by
 have cm:=Jv (L.map λy=>qM y m) (by rw [List.length_map];exact hL)
 refine Ab Tryz.func35 λs0=>?_
 rw [Tryz.ntmps35]
 apply Y1;refine Bx ?_;refine Wa<|Y0<|Y1 ?_;refine CW (Ac rfl) (Ac rfl) rfl rfl rfl rfl rfl ?_;refine Wa<|Y0<|Aa<|Y1<|Wa<|Y0<|AWp.block ?_
 refine AC (λmz σ=>∃k,k<=L.length/\mz=L.length-k/\σ=⟨[(0,.d (AZ L)),(3,.ptr 0 0),(5,.own 1),(6,.d (ex (.int .i64 (k:Nat))))],[.var 55 ((AK m).map .d),.row 55 8 (((L.take k).map λy=>qM y m).map AK)]⟩) ?le ⟨0,by omega,rfl,rfl⟩ ?round
 case le=>exact Ah (by exact Yd<|Yp<|FrLe.cons rfl (AVle.own rfl)<|Yd<|FrLe.nil) (by exact Yv<|Yr<|HpLe.nil)
 case round=>
  rintro mz _ ⟨k,hk,rfl,rfl⟩
  by_cases hlt:k<L.length
  .have cg:=YN (AH L k) m
   have hy:AH L k∈L:=by
    rw [AH,List.getD_eq_getElem?_getD,List.getElem?_eq_getElem hlt]
    exact List.getElem_mem hlt
   have cq:=A2Y (h1 _ hy) h2
   have hl:((L.take k).map λy=>qM y m).length<=100000:=by
    rw [List.length_map,List.length_take]
    omega
   refine Aa<|Y1<|Wm<|Wm ?_;refine Wq AR ?_;refine Wq Ak ?_;refine Y0<|Ct<|Ys<|Aa<|AWp.block<|Aa ?_
   refine Lf (JE (e:=13) (by kernel_rfl) (K4 (K4 (K4 (AddE.keep (AddE.keep (AddE.keep (AddE.add (AddE.keep AddE.nil)))))))) (by kernel_rfl)) [[],[],[(17,0),(18,1)],[(19,2)],[],[],[(21,4),(22,5)],[(23,6)],[],[(24,7),(25,8)],[(20,3),(26,9)],[(27,10)],[(16,11)],[(16,11)],[]] [[],[],[0,1],[0,1,2],[],[],[4,5],[4,5,6],[],[4,5,6,7,8],[0,1,2,3,4,5,6,7,8,9],[0,1,2,3,4,5,6,7,8,9,10],[0,1,2,3,4,5,6,7,8,9,10,11],[0,1,2,3,4,5,6,7,8,9,10,11],[]] rfl (by kernel_rfl) (by kernel_rfl) (by kernel_rfl) ?_
   refine Xq Af ?_;refine Xq Af ?_;refine Xq AE ?_;refine Xq AB ?_;refine Xq Af ?_;refine Xq Af ?_;refine Xq AE ?_;refine Xq AB ?_;refine Xq At ?_;refine Xq (Ad (cg)) ?_;refine Xq (Ad (cq)) ?_;refine Xq Af ?_;refine Xq AI ?_;refine Xq AI ?_;refine Xn ?_;refine ⟨_,rfl,?_⟩
   refine Sf ?_;refine Wa<|AWl.nil ?_;apply OnlyN.mk';refine Yn<|AWp.region<|Wm ?_;refine Wq At ?_;refine Wq (BF (ao rfl) (Ac rfl) (Ac rfl) rfl rfl rfl rfl rfl) ?_;(refine Ap ?_);refine Wa<|AWl.nil<|Ag<|Yn<|AWp.region<|Wm ?_;refine Wq AD ?_;refine Wa<|AWl.nil ?_
   refine ALoop.next (L.length-(k+1)) (by omega) ⟨k+1,by omega,rfl,rfl⟩ ?_
   exact Ah (by exact Yd<|Yp<|FrLe.cons rfl (AVle.own rfl)<|Yd<|FrLe.nil) (by apply Yv;refine HpLe.cons (Ca ((CJ AK _ (qM (AH L k) m)).trans (by rw [MM hlt]))) ?_;exact HpLe.nil)
  .obtain rfl:k=L.length:=by omega
   rw [List.take_length]
   refine Aa<|Y1<|Wm<|Wm ?_;refine Wq AR ?_;refine Wq Aj ?_;refine Y0<|Cf<|AA<|Aq<|Ar<|ABlock.hit<|Yn<|Y1<|Wm ?_;refine Wq (Ad (cm)) ?_;refine Wa<|Y0<|Am ?_
   exact Yf
def Kw(k:Nat):Nat:=2^k
theorem Wf(k:Nat):Kw (k+1)=2*Kw k:=by unfold Kw;rw [Nat.pow_succ];omega
theorem Uq{k:Nat}(h:k<8):Kw k<=128:=Nat.pow_le_pow_right (n:=2) (by omega) (show k<=7 by omega)
theorem Um{n:Nat}(h:n<256):IntKind.u8.wrap (n:Int)=n:=by
 unfold IntKind.wrap
 simp only [IntKind.signed,IntKind.bits]
 simp
 omega
theorem A0n(i:Nat)(hi:i<8):Abs Tryz.prog 126 [ex (.int .i64 (i:Nat))] (ex (.int .u8 (Kw i:Nat))):=by
 refine Ab Tryz.func126 λs0=>?_
 rw [Tryz.ntmps126]
 refine Y1<|Wa<|Y0<|Y1<|Wa<|Y0<|Aa<|Y1<|Wa<|Y0<|AWp.block ?_
 refine AC (λmz σ=>∃k,k<=i/\mz=i-k/\σ=⟨[(0,.d (ex (.int .i64 (i:Nat)))),(3,.d (ex (.int .i64 (Kw k:Nat)))),(4,.d (ex (.int .i64 (k:Nat))))],[]⟩) ?le ⟨0,by omega,rfl,rfl⟩ ?round
 case le=>exact Ah (by exact Yd<|Yd<|Yd<|FrLe.nil) (by exact HpLe.nil)
 case round=>
  rintro mz _ ⟨k,hk,rfl,rfl⟩
  by_cases hlt:k<i
  .have hp:=Uq (k:=k) (by omega)
   have hs:(2:Int)*(Kw k:Int)=(Kw (k+1):Int):=by rw [Wf];omega
   refine Aa<|Y1<|Wm<|Wm ?_;refine Wq Ak ?_;refine Y0<|Ct<|Ys<|Aa<|AWp.block<|AWp.region<|Wm ?_;refine Wq A3v ?_;refine Wa<|AWl.nil<|Ag<|Yn<|AWp.region<|Wm ?_;refine Wq AD ?_;refine Wa<|AWl.nil ?_
   refine ALoop.next (i-(k+1)) (by omega) ⟨k+1,by omega,rfl,rfl⟩ ?_
   exact Ah (by exact Yd<|FrLe.cons rfl (AVle.int hs)<|Yd<|FrLe.nil) (by exact HpLe.nil)
  .obtain rfl:k=i:=by omega
   have hw:=Um (n:=Kw k) (by have:=Uq hi;omega)
   refine Aa<|Y1<|Wm<|Wm ?_;refine Wq Aj ?_;refine Y0<|Cf<|AA<|Aq<|Ar<|ABlock.hit<|Yn<|Y1<|Wm ?_;refine Wq A26 ?_;refine Wa<|Y0<|Am ?_
   exact AN (Rets.of1 (ResV.tmp rfl rfl) (BJ (by rw [hw])))
theorem Su(a:Nat->Int)(k:Nat)(h:0<a k):Bn a (k+1)=Bn a k+Kw k:=by
 rw [Bn,if_pos h,Kw]
 have h1:=CX a k
 have h2:(Bn a k) ||| 2^k=2^k ||| (Bn a k):=Nat.or_comm _ _
 rw [h2]
 have:=Nat.two_pow_add_eq_or_of_lt h1 1
 rw [Nat.mul_one] at this
 rw [<-this];omega
theorem Jt(a:Nat->Int):Abs Tryz.prog 80 [Bb (AK a)] (ex (.int .u8 (Bn a 8:Nat))):=by
 refine Ab Tryz.func80 λs0=>?_
 rw [Tryz.ntmps80]
 apply Y1;refine Bx ?_;refine Wa<|Y0<|Y1<|Wa<|Y0<|Aa<|Y1<|Wa<|Y0<|AWp.block ?_
 refine AC (λmz σ=>∃k,k<=8/\mz=8-k/\σ=⟨[(1,.ptr 0 0),(3,.d (ex (.int .u8 (Bn a k:Nat)))),(4,.d (ex (.int .i64 (k:Nat))))],[.var 55 ((AK a).map .d)]⟩) ?le ⟨0,by omega,rfl,rfl⟩ ?round
 case le=>exact Ah (by exact Yp<|Yd<|Yd<|FrLe.nil) (by exact Yv<|HpLe.nil)
 case round=>
  rintro mz _ ⟨k,hk,rfl,rfl⟩
  by_cases hlt:k<8
  .by_cases hp:0<a k
   .have hs:=Su a k hp
    have hl:Bn a (k+1)<256:=Nat.lt_of_lt_of_le (CX a (k+1)) (Nat.pow_le_pow_right (n:=2) (j:=8) (by omega) (by omega))
    have hw:IntKind.u8.wrap ((Bn a k:Int)+(Kw k:Int))=(Bn a (k+1):Nat):=by
     rw [<-Um hl,hs,Int.natCast_add]
    refine Aa<|Y1<|Wm ?_;refine Wq Ak ?_;refine Y0<|Ct<|Ys<|Aa<|AWp.block<|Y1<|Wm ?_;refine Wq BE ?_;refine Wq BI ?_;refine Wq Ak ?_;refine Y0<|Ct<|AWp.region<|Wm<|Wm ?_;refine Wq (Ad (A0n k hlt)) ?_;refine Wq (A2h (ao rfl) (ao rfl) hw) ?_;refine Wa<|AWl.nil<|Ag<|Yn<|AWp.region<|Wm ?_;refine Wq AD ?_;refine Wa<|AWl.nil ?_
    refine ALoop.next (8-(k+1)) (by omega) ⟨k+1,by omega,rfl,rfl⟩ ?_
    exact Ah (by exact Yp<|Yd<|Yd<|FrLe.nil) (by exact Yv<|HpLe.nil)
   .have hs:Bn a (k+1)=Bn a k:=by rw [Bn, if_neg hp]
    refine Aa<|Y1<|Wm ?_;refine Wq Ak ?_;refine Y0<|Ct<|Ys<|Aa<|AWp.block<|Y1<|Wm ?_;refine Wq BE ?_;refine Wq BI ?_;refine Wq Aj ?_;refine Y0<|Cf<|AWp.skip<|Ag<|Yn<|AWp.region<|Wm ?_;refine Wq AD ?_;refine Wa<|AWl.nil ?_
    refine ALoop.next (8-(k+1)) (by omega) ⟨k+1,by omega,rfl,rfl⟩ ?_
    exact Ah (by exact Yp<|FrLe.cons rfl (AVle.int (by rw [hs]))<|Yd<|FrLe.nil) (by exact Yv<|HpLe.nil)
  .obtain rfl:k=8:=by omega
   refine Aa<|Y1<|Wm ?_;refine Wq Aj ?_;refine Y0<|Cf<|AA<|Aq<|Ar<|ABlock.hit<|Yn<|Y1<|Wm<|Wa<|Y0<|Am ?_
   exact Yf
theorem Xh{a b:Nat}(ha:a<256)(hb:b<256):a &&& (2^64-1-b)=a &&& (255-b):=by
 refine Nat.eq_of_testBit_eq λi=>?_
 rw [Nat.testBit_and,Nat.testBit_and]
 have e1:2^64-1-b=2^64-(b+1):=by omega
 have e2:255-b=2^8-(b+1):=by omega
 rw [e1,e2,Nat.testBit_two_pow_sub_succ (by omega),Nat.testBit_two_pow_sub_succ (by omega)]
 by_cases h:i<8
 .rw [decide_eq_true (show i<64 by omega),decide_eq_true h]
 .have:a.testBit i=false:=Nat.testBit_lt_two_pow (Nat.lt_of_lt_of_le ha (Nat.pow_le_pow_right (n:=2) (i:=8) (by decide) (by omega)))
  rw [this,Bool.false_and,Bool.false_and]
section
variable {P:Program} {hp:List Ow} {arg:Operand->AV} {dd:Option Tmp} {ty:TypeId} {ps:String} {af:Array Edge} {gd:Option (Nat×Bool)}
theorem NY{T U:TypeId}{x y:Operand}{a b:Nat}(hx:arg x = .d (ex (.int .i64 (a:Nat))))(hy:arg y = .d (ex (.int .i64 (b:Nat))))(ha:a<256)(hb:b<256):Quiet P hp ⟨dd,.binOp .andNot T x y U,ty,ps,af,gd⟩ arg (.d (ex (.int .i64 ((a &&& (255-b):Nat):Int)))):=by
 refine PG hx hy λw=>?_
 have h1:(BitVec.ofInt 64 (a:Int) &&& ~~~ BitVec.ofInt 64 (b:Int)).toNat=a &&& (255-b):=by
  rw [BitVec.toNat_and,BitVec.toNat_not,BitVec.ofInt_natCast,BitVec.ofInt_natCast,BitVec.toNat_ofNat,BitVec.toNat_ofNat,Nat.mod_eq_of_lt (show a<2^64 by omega),Nat.mod_eq_of_lt (show b<2^64 by omega)]
  exact Xh ha hb
 have h2:a &&& (255-b)<256:=Nat.lt_of_le_of_lt Nat.and_le_left ha
 have h3:IntKind.i64.wrap ((a &&& (255-b):Nat):Int)=((a &&& (255-b):Nat):Int):=IntWalk.i64_in _ (by omega)
 have h4:(BitVec.ofInt IntKind.i64.bits (a:Int) &&& ~~~ BitVec.ofInt IntKind.i64.bits (b:Int)).toNat=a &&& (255-b):=h1
 have h5:((BitVec.ofInt IntKind.i64.bits (a:Int) &&& ~~~ BitVec.ofInt IntKind.i64.bits (b:Int)).toNat:Int)=((a &&& (255-b):Nat):Int):=by rw [h4]
 show Sem.run P (do eqGuard .andNot T x y (.int .i64 a) (.int .i64 b);binOp .andNot T (.int .i64 a) (.int .i64 b)) w=_
 simp only [eqGuard,binOp,Op.intBits,h5,h3]
 rfl
end
theorem ZI{l:Ai}{s:Nat}(h:∀j,j<l.length->Hf (AH l j) s=false):EG l s=true:=by
 unfold EG
 have:l.any (Hf · s)=false:=by
  refine Bool.eq_false_iff.2 λh2=>?_
  obtain ⟨z,hz,h3⟩:=List.any_eq_true.1 h2
  obtain ⟨j,hj,rfl⟩:=List.getElem_of_mem hz
  have:=h j hj
  rw [AH,List.getD_eq_getElem?_getD,List.getElem?_eq_getElem hj] at this
  have h4:Hf l[j] s=false:=this
  rw [h4] at h3
  cases h3
 rw [this]
 rfl
theorem A1D{l:Ai}{s j:Nat}(hj:j<l.length)(h:Hf (AH l j) s=true):EG l s=false:=by
 unfold EG
 have:l.any (Hf · s)=true:=List.any_eq_true.2 ⟨_,Cg hj,h⟩
 rw [this]
 rfl
theorem Mp(l:Ai)(s:Nat)(hs:s<256)(hl:l.length<=1000):Abs Tryz.prog 38 [AZ l,ex (.int .i64 (s:Nat))] (ex (.bool (EG l s))):=by
 refine Ab Tryz.func38 λs0=>?_
 rw [Tryz.ntmps38]
 refine Y1<|Wa<|Y0<|Aa<|Y1<|Wa<|Y0<|AWp.block ?_
 refine AC (λmz σ=>∃k,k<=l.length/\(∀j,j<k->Hf (AH l j) s=false)/\mz=l.length-k/\σ=⟨[(0,.d (AZ l)),(1,.d (ex (.int .i64 (s:Nat)))),(5,.d (ex (.int .i64 (k:Nat))))],[]⟩) ?le ⟨0,by omega,λj hj=>absurd hj (Nat.not_lt_zero j),rfl,rfl⟩ ?round
 case le=>exact Ah (by exact Yd<|Yd<|Yd<|FrLe.nil) (by exact HpLe.nil)
 case round=>
  rintro mz _ ⟨k,hk,hok,rfl,rfl⟩
  by_cases hlt:k<l.length
  .have cs:=Jt (AH l k)
   have hsl:Bn (AH l k) 8<256:=CX _ 8
   by_cases hb:((Bn (AH l k) 8 &&& (255-s):Nat):Int)=0
   .rw [A1D hlt (show Hf (AH l k) s=true from decide_eq_true hb)]
    refine Aa<|Y1<|Wm<|Wm ?_;refine Wq AR ?_;refine Wq Ak ?_;refine Y0<|Ct<|Ys<|Aa<|AWp.block<|Y1<|Wm<|Wm ?_;refine Wq AE ?_;refine Wq AB ?_;refine Wq (Ad (cs)) ?_;refine Wq (Gm (ao rfl) (Ac rfl) (Ac rfl) hsl) ?_;refine Wm ?_;refine Wq (NY (ao rfl) (ao rfl) hsl hs) ?_;refine Wq Ak ?_;refine Y0<|Ct<|Y1<|Wa<|Y0<|Am<|Bw<|AP<|Di<|Bw<|AP ?_
    exact Yf
   .refine Aa<|Y1<|Wm<|Wm ?_;refine Wq AR ?_;refine Wq Ak ?_;refine Y0<|Ct<|Ys<|Aa<|AWp.block<|Y1<|Wm<|Wm ?_;refine Wq AE ?_;refine Wq AB ?_;refine Wq (Ad (cs)) ?_;refine Wq (Gm (ao rfl) (Ac rfl) (Ac rfl) hsl) ?_;refine Wm ?_;refine Wq (NY (ao rfl) (ao rfl) hsl hs) ?_;refine Wq Aj ?_;refine Y0<|Cf<|AWp.skip<|Ag<|Yn<|AWp.region<|Wm ?_;refine Wq AD ?_;refine Wa<|AWl.nil ?_
    refine ALoop.next (l.length-(k+1)) (by omega) ⟨k+1,by omega,?_,rfl,rfl⟩ ?_
    .intro j hj
     by_cases hjk:j=k
     .subst hjk
      exact decide_eq_false hb
     .exact hok j (by omega)
    .exact Ah (by exact Yd<|Yd<|Yd<|FrLe.nil) (by exact HpLe.nil)
  .obtain rfl:k=l.length:=by omega
   rw [ZI hok]
   refine Aa<|Y1<|Wm<|Wm ?_;refine Wq AR ?_;refine Wq Aj ?_;refine Y0<|Cf<|AA<|Aq<|Ar<|ABlock.hit<|Yn<|Y1<|Wa<|Y0<|Am ?_
   exact Yf
def onT(s:Nat):Nat->Nat
 | 0=>0
 | k+1=>onT s k+s/2^k%2
theorem Zb(s:Nat):∀k,onT s k<=k
 | 0=>Nat.le_refl 0
 | k+1=>by
  have:=Zb s k
  have:=Nat.mod_lt (s/2^k) (show 0<2 by decide)
  rw [onT]
  omega
theorem A1n(s:Nat):onT s 8=DI s:=by
 simp [onT,DI]
theorem Xy(s:Nat)(hs:s<256):Abs Tryz.prog 39 [ex (.int .u8 (s:Nat))] (ex (.int .i64 (DI s:Nat))):=by
 refine Ab Tryz.func39 λs0=>?_
 rw [Tryz.ntmps39]
 refine Y1<|Wa<|Y0<|Y1<|Wa<|Y0<|Aa<|Y1<|Wa<|Y0<|AWp.block ?_
 refine AC (λmz σ=>∃k,k<=8/\mz=8-k/\σ=⟨[(0,.d (ex (.int .u8 (s:Nat)))),(3,.d (ex (.int .i64 (onT s k:Nat)))),(4,.d (ex (.int .i64 (k:Nat))))],[]⟩) ?le ⟨0,by omega,rfl,rfl⟩ ?round
 case le=>exact Ah (by exact Yd<|Yd<|Yd<|FrLe.nil) (by exact HpLe.nil)
 case round=>
  rintro mz _ ⟨k,hk,rfl,rfl⟩
  by_cases hlt:k<8
  .have h1:=Zb s k
   have h2:=Nat.mod_lt (s/2^k) (show 0<2 by decide)
   have hx:((onT s k:Nat):Int)+((s/2^k%2:Nat):Int)=((onT s (k+1):Nat):Int):=by rw [onT];omega
   refine Aa<|Y1<|Wm ?_;refine Wq Ak ?_;refine Y0<|Ct<|Ys<|Aa<|AWp.block<|AWp.region<|Wm<|Wm ?_;refine Wq (Gm (ao rfl) (Ac rfl) (Ac rfl) hs) ?_;refine Wm ?_;refine Wq (Mw (a:=s) (n:=k) (ao rfl) (ao rfl) (by omega)) ?_;refine Wq (HK (a:=s/2^k) (b:=2) (ao rfl) (ao rfl) (by decide)) ?_;refine Wq CC ?_;refine Wa<|AWl.nil<|Ag<|Yn<|AWp.region<|Wm ?_;refine Wq AD ?_;refine Wa<|AWl.nil ?_
   refine ALoop.next (8-(k+1)) (by omega) ⟨k+1,by omega,rfl,rfl⟩ ?_
   exact Ah (by exact Yd<|Yd<|Yd<|FrLe.nil) (by exact HpLe.nil)
  .obtain rfl:k=8:=by omega
   rw [A1n]
   refine Aa<|Y1<|Wm ?_;refine Wq Aj ?_;refine Y0<|Cf<|AA<|Aq<|Ar<|ABlock.hit<|Yn<|Y1<|Wm<|Wa<|Y0<|Am ?_
   exact Yf
theorem XE(l:Ai)(n:Nat)(hn:n<=8)(hl:l.length<=12)(h1:∀y∈l,In8 y 0 64)(h2:∀y∈l,SupN n y):Abs Tryz.prog 48 [AZ l,ex (.int .i64 (n:Nat))] (ex (.int .i64 0)):=by
 have hn0:¬((n:Nat):Int)<0:=by omega
 have hn9:¬(8:Int)<((n:Nat):Int):=by omega
 refine Ab Tryz.func48 λs0=>?_
 rw [Tryz.ntmps48]
 refine Y1<|Wa<|Y0<|Aa<|Y1<|Wm ?_;refine Wq Aj ?_;refine Wm ?_;refine Wg Af ?_;refine Wg Aj ?_;refine Wq Bc ?_;refine Y0<|Cf<|Ys<|Aa<|Y1<|Wa<|Y0<|AWp.block ?_
 refine AC (λmz σ=>∃k,k<=l.length/\mz=l.length-k/\σ=⟨[(0,.d (AZ l)),(1,.d (ex (.int .i64 (n:Nat)))),(5,.d (ex (.int .i64 (k:Nat))))],[]⟩) ?le ⟨0,by omega,rfl,rfl⟩ ?round
 case le=>exact Ah (by exact Yd<|Yd<|Yd<|FrLe.nil) (by exact HpLe.nil)
 case round=>
  rintro mz _ ⟨k,hk,rfl,rfl⟩
  by_cases hlt:k<l.length
  .have hy:=Cg hlt
   have hin:=h1 _ hy
   have cv:=Ps (AH l k) λj hj=>⟨(hin j hj).1,by have:=(hin j hj).2;omega⟩
   have cs:=Jt (AH l k)
   have hsl:Bn (AH l k) 8<256:=CX _ 8
   have hsh:=IP (h2 _ hy)
   refine Aa<|Y1<|Wm<|Wm ?_;refine Wq AR ?_;refine Wq Ak ?_;refine Y0<|Ct<|Ys<|Aa<|AWp.block<|Y1<|Wm<|Wm ?_;refine Wq AE ?_;refine Wq AB ?_;refine Wq (Ad (cv)) ?_;refine Wq BH ?_;refine Wm ?_;refine Wg Af ?_;refine Wg Af ?_;refine Wg AE ?_;refine Wg AB ?_;refine Wg (Ad (cs)) ?_;refine Wg (Gm (a:=Bn (AH l k) 8) (ao rfl) (Ac rfl) (Ac rfl) hsl) ?_;refine Wg Af ?_;refine Wg (Mw (a:=Bn (AH l k) 8) (n:=n) (ao rfl) (ao rfl) (by omega)) ?_;refine Wg Aj ?_;refine Wq Bc ?_;refine Y0<|Cf<|AWp.skip<|Ag<|Yn<|AWp.region<|Wm ?_;refine Wq AD ?_;refine Wa<|AWl.nil ?_
   refine ALoop.next (l.length-(k+1)) (by omega) ⟨k+1,by omega,rfl,rfl⟩ ?_
   exact Ah (by exact Yd<|Yd<|Yd<|FrLe.nil) (by exact HpLe.nil)
  .obtain rfl:k=l.length:=by omega
   refine Aa<|Y1<|Wm<|Wm ?_;refine Wq AR ?_;refine Wq Aj ?_;refine Y0<|Cf<|AA<|Aq<|Ar<|ABlock.hit<|Yn<|Aa<|Y1<|Wm ?_;refine Wq AR ?_;refine Wq Aj ?_;refine Y0<|Cf<|Ys<|Aa<|Y1<|Wa<|Y0<|AWp.block ?_
   refine AC (λmz σ=>∃i,i<=l.length/\mz=l.length-i/\σ=⟨[(0,.d (AZ l)),(1,.d (ex (.int .i64 (n:Nat)))),(6,.d (ex (.int .i64 (i:Nat))))],[]⟩) ?lei ⟨0,by omega,rfl,rfl⟩ ?roundi
   case lei=>exact Ah (by exact Yd<|Yd<|Yd<|FrLe.nil) (by exact HpLe.nil)
   case roundi=>
    rintro mz _ ⟨i,hi,rfl,rfl⟩
    by_cases hlti:i<l.length
    .have hin:=h1 _ (Cg hlti)
     refine Aa<|Y1<|Wm<|Wm ?_;refine Wq AR ?_;refine Wq Ak ?_;refine Y0<|Ct<|Ys<|Aa<|AWp.block<|Y1<|Wa<|Y0<|AWp.block ?_
     refine AC (λmz σ=>∃j,j<=8/\mz=8-j/\σ=⟨[(0,.d (AZ l)),(1,.d (ex (.int .i64 (n:Nat)))),(6,.d (ex (.int .i64 (i:Nat)))),(7,.d (ex (.int .i64 (j:Nat))))],[]⟩) ?lej ⟨0,by omega,rfl,rfl⟩ ?roundj
     case lej=>exact Ah (by exact Yd<|Yd<|Yd<|Yd<|FrLe.nil) (by exact HpLe.nil)
     case roundj=>
      rintro mz _ ⟨j,hj,rfl,rfl⟩
      by_cases hltj:j<8
      .have hj:=hin j hltj
       have hj2:¬64<l.getD i default j:=by
        have:l.getD i default j<=64:=hj.2
        omega
       refine Aa<|Y1<|Wm ?_;refine Wq Ak ?_;refine Y0<|Ct<|Ys<|Aa<|AWp.block<|Y1<|Wm<|Wm<|Wm ?_;refine Wq AE ?_;refine Wq A0r ?_;refine Wq A0q ?_;refine Wq Aj ?_;refine Y0<|Cf<|AWp.skip<|Ag<|Yn<|AWp.region<|Wm ?_;refine Wq AD ?_;refine Wa<|AWl.nil ?_
       refine ALoop.next (8-(j+1)) (by omega) ⟨j+1,by omega,rfl,rfl⟩ ?_
       exact Ah (by exact Yd<|Yd<|Yd<|Yd<|FrLe.nil) (by exact HpLe.nil)
      .obtain rfl:j=8:=by omega
       refine Aa<|Y1<|Wm ?_;refine Wq Aj ?_;refine Y0<|Cf<|AA<|Aq<|Ar<|ABlock.hit<|Ag<|Yn<|AWp.region<|Wm ?_;refine Wq AD ?_;refine Wa<|AWl.nil ?_
       refine ALoop.next (l.length-(i+1)) (by omega) ⟨i+1,by omega,rfl,rfl⟩ ?_
       exact Ah (by exact Yd<|Yd<|Yd<|FrLe.nil) (by exact HpLe.nil)
    .obtain rfl:i=l.length:=by omega
     refine Aa<|Y1<|Wm<|Wm ?_;refine Wq AR ?_;refine Wq Aj ?_;refine Y0<|Cf<|AA<|Aq<|Ar<|ABlock.hit<|Yn<|Y1<|Wa<|Y0<|Am ?_
     exact Yf
theorem A1r{f:Nat->Int}{n k:Nat}(h:k<=n):slD 3 1 (((List.range n).take k).map λi=>[ex (.int .i64 (f i))])=nD k f:=by
 unfold nD
 rw [List.take_range,Nat.min_eq_left h]
theorem A0t{P:Program}{hp:List Ow}{arg:Operand->AV}{dd:Option Tmp}{ty:TypeId}{ps:String}{af:Array Edge}{gd:Option (Nat×Bool)}{x y:Operand}{t:TypeId}{e n b n' b' m k:Nat}{d:TypeDesc}{z z':Value}{f:Nat->Int}(hx:Ed hp (arg x)=some (nD m f))(hy:arg y = .d (ex (.int .i64 (k:Nat))))(ht:Tab P t (.slice e) n b z)(he:Tab P e d n' b' z')(hsz:n'=1)(hk:k<=m):Quiet P hp ⟨dd,.slice t x none (some y) none,ty,ps,af,gd⟩ arg (.d (nD k f)):=by
 have:=Mv (dd:=dd) (ty:=ty) (ps:=ps) (af:=af) (gd:=gd) (f:=λi=>[ex (.int .i64 (f i))]) (l:=List.range m) hx hy ht he hsz (by rw [List.length_range];exact hk)
 rwa [A1r hk] at this
theorem NS(f:Nat->Int)(N:Nat)(hN:N<=100000):Abs Tryz.prog 105 [nD N f] (nD (FM f N) f):=by
 refine Ab Tryz.func105 λs0=>?_
 rw [Tryz.ntmps105]
 refine Y1<|Wa<|Y0<|Aa<|AWp.block ?_
 refine AC (λmz σ=>∃M,M<=N/\FM f M=FM f N/\mz=M/\σ=⟨[(0,.d (nD M f))],[]⟩) ?le ⟨N,Nat.le_refl N,rfl,rfl,rfl⟩ ?round
 case le=>exact Ah (by exact Yd<|FrLe.nil) (by exact HpLe.nil)
 case round=>
  rintro mz _ ⟨M,hM,ht,rfl,rfl⟩
  by_cases h0:mz=0
  .subst h0
   rw [<-ht]
   refine Aa<|Y1<|Wm ?_;refine Wq (BX (n:=0) (f:=f) rfl (Ac rfl)) ?_;refine Wq Aj ?_;refine Wm ?_;refine Ws ?_;refine Ws ?_;refine Ws ?_;refine Ws ?_;refine Ws ?_;refine Ws ?_;refine Ws ?_;refine Wq Bc ?_;refine Y0<|Cf<|AA<|Aq<|Ar<|ABlock.hit<|Yn<|Y1<|Wm<|Wa<|Y0<|Am ?_
   exact Yf
  .have hlt:mz-1<mz:=by omega
   have e1:mz=(mz-1)+1:=by omega
   by_cases hz:f (mz-1)=0
   .have ht2:FM f (mz-1)=FM f N:=by rw [<-ht, e1, FM, Nat.add_sub_cancel, if_pos hz]
    refine Aa<|Y1<|Wm ?_;refine Wq (BX (n:=mz) (f:=f) rfl (Ac rfl)) ?_;refine Wq Ak ?_;refine Wm ?_;refine Wg Af ?_;refine Wg Af ?_;refine Wg (BX (n:=mz) (f:=f) rfl (Ac rfl)) ?_;refine Wg CM ?_;refine Wg (FI (m:=mz) (k:=mz-1) (f:=f) rfl (ao rfl) (Ac rfl) (Ac rfl) rfl hlt) ?_;refine Wg CA ?_;refine Wg Ak ?_;refine Wq AM ?_;refine Y0<|Ct<|Ys<|AWp.block<|AWp.region<|Wm<|Wm ?_;refine Wq (BX (n:=mz) (f:=f) rfl (Ac rfl)) ?_;refine Wq CM ?_;refine Wq (A0t (m:=mz) (k:=mz-1) (f:=f) rfl (ao rfl) (Ac rfl) (Ac rfl) rfl (by omega)) ?_;refine Wa<|AWl.nil<|Ag ?_
    refine ALoop.next (mz-1) (by omega) ⟨mz-1,by omega,ht2,rfl,rfl⟩ ?_
    exact Ah (by exact Yd<|FrLe.nil) (by exact HpLe.nil)
   .have ht2:FM f N=mz:=by
     rw [<-ht,e1,FM,if_neg hz]
    rw [ht2]
    refine Aa<|Y1<|Wm ?_;refine Wq (BX (n:=mz) (f:=f) rfl (Ac rfl)) ?_;refine Wq Ak ?_;refine Wm ?_;refine Wg Af ?_;refine Wg Af ?_;refine Wg (BX (n:=mz) (f:=f) rfl (Ac rfl)) ?_;refine Wg CM ?_;refine Wg (FI (m:=mz) (k:=mz-1) (f:=f) rfl (ao rfl) (Ac rfl) (Ac rfl) rfl hlt) ?_;refine Wg CA ?_;refine Wg Aj ?_;refine Wq AM ?_;refine Y0<|Cf<|AA<|Aq<|Ar<|ABlock.hit<|Yn<|Y1<|Wm<|Wa<|Y0<|Am ?_
    exact Yf
theorem A1L:Bnd Vx 64 1:=λt _=>by
 unfold Vx
 split<;>omega
theorem A2x{n t:Nat}(hn:n<=4)(ht:t<=64):0<=wB n t/\wB n t<=17850625:=by
 refine ⟨Yk n t,?_⟩
 have h:=(A1L.sumn n t ht).2
 have h1:65^n<=65^4:=Nat.pow_le_pow_right (by decide) hn
 have h2:(1:Int)*(((64:Nat):Int)+1)^n=((65^n:Nat):Int):=by
  push_cast
  rw [Int.one_mul]
 rw [h2] at h
 have h3:(65:Nat)^4=17850625:=by decide
 have h:wB n t<=((65^n:Nat):Int):=h
 omega
theorem TE(e k:Nat)(z:Int)(hz:z=((e+k:Nat):Int))(he:e<=64)(hk:k<=3):Abs Tryz.prog 51 [ex (.int .i64 z),ex (.int .i64 (k:Nat))] (ex (.int .i64 (wB (k+1) e))):=by
 subst hz
 refine Ab Tryz.func51 λs0=>?_
 rw [Tryz.ntmps51]
 refine Y1<|Wa<|Y0<|Y1<|Wa<|Y0<|Aa<|Y1<|Wa<|Y0<|AWp.block ?_
 refine AC (λmz σ=>∃i,i<=k/\mz=k-i/\σ=⟨[(0,.d (ex (.int .i64 (e+k:Nat)))),(1,.d (ex (.int .i64 (k:Nat)))),(5,.d (ex (.int .i64 (wB (i+1) e)))),(6,.d (ex (.int .i64 (i+1:Nat))))],[]⟩) ?lei ⟨0,by omega,rfl,rfl⟩ ?roundi
 case lei=>exact Ah (by exact Yd<|Yd<|FrLe.cons rfl (AVle.int (So e).symm)<|Yd<|FrLe.nil) (by exact HpLe.nil)
 case roundi=>
  rintro mz _ ⟨i,hi,rfl,rfl⟩
  by_cases hlti:i<k
  .have hw:=A2x (n:=i+1) (t:=e) (by omega) he
   have hnx:=A12 i e
   have hs:((e+k:Nat):Int)-((k:Nat):Int)=((e:Nat):Int):=by omega
   have h69:(((e:Nat):Int)+((i+1:Nat):Int))<=69:=by omega
   have hm1:0<=wB (i+1) e*(((e:Nat):Int)+((i+1:Nat):Int)):=Int.mul_nonneg hw.1 (by omega)
   have hm2:wB (i+1) e*(((e:Nat):Int)+((i+1:Nat):Int))<=17850625*69:=Int.le_trans (Int.mul_le_mul_of_nonneg_left h69 hw.1) (Int.mul_le_mul_of_nonneg_right hw.2 (by decide))
   have hq:wB (i+1) e*(((e:Nat):Int)+((i+1:Nat):Int))/((i+1:Nat):Int)=wB (i+2) e:=by
    rw [hnx]
    congr 1
   rw [show (((e:Nat):Int)+((i+1:Nat):Int))=((e+k:Nat):Int)-((k:Nat):Int)+((i+1:Nat):Int) by omega] at hm1 hm2 hq
   refine Aa<|Y1<|Wm<|Wm ?_;refine Wq Ak ?_;refine Y0<|Ct<|Ys<|Aa<|AWp.block<|AWp.region<|Wm<|Wm<|Wm ?_;refine Wq DV ?_;refine Wm ?_;refine Wq CC ?_;refine Wq (TP (ao rfl) (ao rfl) (by omega) (by omega)) ?_;refine Wm ?_;refine Wq (A3z (ao rfl) (ao rfl) hm1 (by omega) (by omega)) ?_;refine Wa<|AWl.nil<|Ag<|Yn<|AWp.region<|Wm ?_;refine Wq AD ?_;refine Wa<|AWl.nil ?_
   refine ALoop.next (k-(i+1)) (by omega) ⟨i+1,by omega,rfl,rfl⟩ ?_
   exact Ah (by exact Yd<|Yd<|FrLe.cons rfl (AVle.int hq)<|Yd<|FrLe.nil) (by exact HpLe.nil)
  .obtain rfl:i=k:=by omega
   refine Aa<|Y1<|Wm<|Wm ?_;refine Wq Aj ?_;refine Y0<|Cf<|AA<|Aq<|Ar<|ABlock.hit<|Yn<|Y1<|Wm<|Wa<|Y0<|Am ?_
   exact Yf
def cT(n d:Nat)(f:Nat->Int)(i:Nat):Int:=f i*wB n (d-i)
theorem A2M{n d i:Nat}{f:Nat->Int}(hn:n<=4)(hd:d<=64)(hf:∀i,-4096<=f i/\f i<=4096):-73116160000<=cT n d f i/\cT n d f i<=73116160000:=by
 have h:=A2x (n:=n) (t:=d-i) hn (by omega)
 have h2:=hf i
 have h3:f i*wB n (d-i)<=4096*wB n (d-i):=Int.mul_le_mul_of_nonneg_right h2.2 h.1
 have h4:-4096*wB n (d-i)<=f i*wB n (d-i):=Int.mul_le_mul_of_nonneg_right h2.1 h.1
 unfold cT
 omega
theorem Yy{g:Nat->Int}{C:Int}(h:∀i,-C<=g i/\g i<=C):∀k:Nat,-(C*k)<=Ba k g/\Ba k g<=C*k
 | 0=>by
  show -(C*((0:Nat):Int))<=0/\0<=C*((0:Nat):Int)
  omega
 | k+1=>by
  have h1:=Yy h k
  have h2:=h k
  have e:C*((k+1:Nat):Int)=C*(k:Int)+C:=by rw [Int.natCast_add,Int.mul_add];show _=_+C;rw [show C*((1:Nat):Int)=C from Int.mul_one C]
  rw [Ba,e]
  omega
theorem A3s{n d N:Nat}{f:Nat->Int}(far:∀i,N<=i->f i=0):Ba (min N (d+1)) (cT n d f)=BU n f d:=by
 rw [UT]
 show _=Ba (d+1) (cT n d f)
 by_cases h:d+1<=N
 .rw [Nat.min_eq_right h]
 .rw [Nat.min_eq_left (by omega)]
  obtain ⟨k,hk⟩:∃k,d+1=N+k:=⟨d+1-N,by omega⟩
  rw [hk,Ux λt ht=>by unfold cT;rw [far t ht,Int.zero_mul]]
theorem TD(l:Ai)(n d N:Nat)(f:Nat->Int)(hn:n<=4)(hd:d<=64)(hN:N<=100000)(cn:Abs Tryz.prog 15 [AZ l,ex (.int .i64 (n:Nat))] (BC [nD N f,ex (.int .i64 0)]))(far:∀i,N<=i->f i=0)(hf:∀i,-4096<=f i/\f i<=4096):Abs Tryz.prog 17 [AZ l,ex (.int .i64 (n:Nat)),ex (.int .i64 (d:Nat))] (BC [ex (.int .i64 (BU n f d)),ex (.int .i64 0)]):=by
 have hd0:¬((d:Nat):Int)<0:=by omega
 have hd9:¬(64:Int)<((d:Nat):Int):=by omega
 rw [<-A3s far]
 refine Ab Tryz.func17 λs0=>?_
 rw [Tryz.ntmps17]
 refine Y1<|Wa<|Wa<|Y0<|Y1<|Wm<|Wm ?_;refine Wq (Ad (cn)) ?_;refine Wm ?_;refine Wq AI ?_;refine Wq AI ?_;refine Wa<|Wa<|Y0<|Aa<|Y1<|Wm ?_;refine Wq Aj ?_;refine Y0<|Cf<|Ys<|Aa<|Y1<|Wm ?_;refine Wq Aj ?_;refine Wm ?_;refine Wg Af ?_;refine Wg Aj ?_;refine Wq Bc ?_;refine Y0<|Cf<|Ys<|Y1<|Wa<|Y0<|Aa<|Y1<|Wa<|Y0<|AWp.block ?_
 refine AC (λmz σ=>∃k,k<=min N (d+1)/\mz=min N (d+1)-k/\σ=⟨[(1,.d (ex (.int .i64 (n:Nat)))),(2,.d (ex (.int .i64 (d:Nat)))),(8,.d (nD N f)),(10,.d (ex (.int .i64 (Ba k (cT n d f))))),(11,.d (ex (.int .i64 (k:Nat))))],[]⟩) ?le ⟨0,by omega,rfl,rfl⟩ ?round
 case le=>exact Ah (by exact Yd<|Yd<|Yd<|Yd<|Yd<|FrLe.nil) (by exact HpLe.nil)
 case round=>
  rintro mz _ ⟨k,hk,rfl,rfl⟩
  by_cases hlt:k<min N (d+1)
  .have hkN:k<N:=by omega
   have hkd:((k:Nat):Int)<=((d:Nat):Int):=by omega
   have hkNi:((k:Nat):Int)<((N:Nat):Int):=by omega
   have hb:=A2M (n:=n) (d:=d) (i:=k) hn hd hf
   have hs:-(73116160000*((k:Nat):Int))<=Ba k (cT n d f)/\Ba k (cT n d f)<=73116160000*((k:Nat):Int):=Yy (λi=>A2M (n:=n) (d:=d) (i:=i) hn hd hf) k
   have hstep:Ba (k+1) (cT n d f)=Ba k (cT n d f)+f k*wB n (d-k):=rfl
   by_cases hn0:0<n
   .have hn1:1<=n:=hn0
    have cb:=TE (d-k) (n-1) (((d:Nat):Int)-((k:Nat):Int)+((n:Nat):Int)-1) (by omega) (by omega) (by omega)
    rw [show n-1+1=n by omega] at cb
    have hc:cT n d f k=f k*wB n (d-k):=rfl
    rw [hc] at hb
    refine Aa<|Y1<|Wm<|Wm ?_;refine Wq (BX (n:=N) (f:=f) rfl (Ac rfl)) ?_;refine Wq Ak ?_;refine Wm ?_;refine Wg Af ?_;refine Wg Af ?_;refine Wg Ak ?_;refine Wq AM ?_;refine Y0<|Ct<|Ys<|Aa<|AWp.block<|Y1<|Wm ?_;refine Wq Ak ?_;refine Y0<|Ct ?_
    refine Dr [[],[],[],[(41,1),(42,2)],[(43,3)],[],[],[(45,5),(46,6)],[],[(47,7),(48,8)],[(49,9)],[],[(51,11)],[(50,10),(52,12)],[(44,4),(53,13)],[(40,0),(54,14)]] [[],[],[],[1,2],[1,2,3],[],[],[5,6],[],[5,6,7,8],[5,6,7,8,9],[],[11],[5,6,7,8,9,10,11,12],[1,2,3,4,5,6,7,8,9,10,11,12,13],[0,1,2,3,4,5,6,7,8,9,10,11,12,13,14]] ?_
    refine Xq Af ?_;refine Xq Af ?_;refine Xq Af ?_;(refine Xq (FI (m:=N) (k:=k) (f:=f) rfl (ah rfl) (Ac rfl) (Ac rfl) rfl hkN) ?_);refine Xq CA ?_;refine Xq Af ?_;refine Xq Af ?_;refine Xq DV ?_;refine Xq Af ?_;refine Xq CC ?_;refine Xq DV ?_;refine Xq Af ?_;refine Xq CM ?_;refine Xq (Ad (cb)) ?_;(refine Xq (TP (ah rfl) (ah rfl) (by omega) (by omega)) ?_);refine Xq CC ?_;refine ⟨_,rfl,?_⟩
    refine Wa<|AWl.nil<|Ag<|Yn<|AWp.region<|Wm ?_;refine Wq AD ?_;refine Wa<|AWl.nil ?_
    refine ALoop.next (min N (d+1)-(k+1)) (by omega) ⟨k+1,by omega,rfl,rfl⟩ ?_
    exact Ah (by exact Yd<|Yd<|Yd<|Yd<|Yd<|FrLe.nil) (by exact HpLe.nil)
   .obtain rfl:n=0:=by omega
    by_cases hkd2:k=d
    .have hw:wB 0 (d-k)=1:=by
      rw [hkd2,Nat.sub_self]
      rfl
     rw [hw,Int.mul_one] at hstep
     have hkd3:((k:Nat):Int)=((d:Nat):Int):=by omega
     have hfk:=hf k
     refine Aa<|Y1<|Wm<|Wm ?_;refine Wq (BX (n:=N) (f:=f) rfl (Ac rfl)) ?_;refine Wq Ak ?_;refine Wm ?_;refine Wg Af ?_;refine Wg Af ?_;refine Wg Ak ?_;refine Wq AM ?_;refine Y0<|Ct<|Ys<|Aa<|AWp.block<|Y1<|Wm ?_;refine Wq Aj ?_;refine Y0<|Cf<|Y1<|Wm<|Wm ?_;refine Wq Ak ?_;refine Y0<|Ct<|AWp.region<|Wm<|Wm<|Wm ?_;refine Wq (FI (m:=N) (k:=k) (f:=f) rfl (ao rfl) (Ac rfl) (Ac rfl) rfl hkN) ?_;refine Wq CA ?_;refine Wq CC ?_;refine Wa<|AWl.nil<|Ag<|Yn<|AWp.region<|Wm ?_;refine Wq AD ?_;refine Wa<|AWl.nil ?_
     refine ALoop.next (min N (d+1)-(k+1)) (by omega) ⟨k+1,by omega,rfl,rfl⟩ ?_
     exact Ah (by exact Yd<|Yd<|Yd<|FrLe.cons rfl (AVle.int hstep.symm)<|Yd<|FrLe.nil) (by exact HpLe.nil)
    .have hw:wB 0 (d-k)=0:=by
      show Vx (d-k)=0
      unfold Vx
      rw [if_neg (by omega)]
     rw [hw,Int.mul_zero,Int.add_zero] at hstep
     have hkd3:¬((k:Nat):Int)=((d:Nat):Int):=by omega
     refine Aa<|Y1<|Wm<|Wm ?_;refine Wq (BX (n:=N) (f:=f) rfl (Ac rfl)) ?_;refine Wq Ak ?_;refine Wm ?_;refine Wg Af ?_;refine Wg Af ?_;refine Wg Ak ?_;refine Wq AM ?_;refine Y0<|Ct<|Ys<|Aa<|AWp.block<|Y1<|Wm ?_;refine Wq Aj ?_;refine Y0<|Cf<|Y1<|Wm<|Wm ?_;refine Wq Aj ?_;refine Y0<|Cf<|AWp.skip<|Ag<|Yn<|AWp.region<|Wm ?_;refine Wq AD ?_;refine Wa<|AWl.nil ?_
     refine ALoop.next (min N (d+1)-(k+1)) (by omega) ⟨k+1,by omega,rfl,rfl⟩ ?_
     exact Ah (by exact Yd<|Yd<|Yd<|FrLe.cons rfl (AVle.int hstep.symm)<|Yd<|FrLe.nil) (by exact HpLe.nil)
  .obtain rfl:k=min N (d+1):=by omega
   by_cases hkN:min N (d+1)<N
   .have hkNi:((min N (d+1):Nat):Int)<((N:Nat):Int):=by omega
    have hkd:¬((min N (d+1):Nat):Int)<=((d:Nat):Int):=by omega
    refine Aa<|Y1<|Wm<|Wm ?_;refine Wq (BX (n:=N) (f:=f) rfl (Ac rfl)) ?_;refine Wq Ak ?_;refine Wm ?_;refine Wg Af ?_;refine Wg Af ?_;refine Wg Aj ?_;refine Wq AM ?_;refine Y0<|Cf<|AA<|Aq<|Ar<|ABlock.hit<|Yn<|Y1<|Wm<|Wa<|Wa<|Y0<|Am ?_
    exact AN (BA (ResV.tmp rfl rfl) (ResV.tmp rfl rfl) (Be (D.le.refl _) (D.le.refl _)))
   .have hkNi:¬((min N (d+1):Nat):Int)<((N:Nat):Int):=by omega
    refine Aa<|Y1<|Wm<|Wm ?_;refine Wq (BX (n:=N) (f:=f) rfl (Ac rfl)) ?_;refine Wq Aj ?_;refine Wm ?_;refine Ws ?_;refine Ws ?_;refine Ws ?_;refine Wq Bc ?_;refine Y0<|Cf<|AA<|Aq<|Ar<|ABlock.hit<|Yn<|Y1<|Wm<|Wa<|Wa<|Y0<|Am ?_
    exact AN (BA (ResV.tmp rfl rfl) (ResV.tmp rfl rfl) (Be (D.le.refl _) (D.le.refl _)))
theorem Qt(n:Nat)(r:R4)(j:Nat):0<=mdM n 4 r j/\mdM n 4 r j<=4/\((n<=j\/4<=j)->mdM n 4 r j=0):=by
 unfold mdM
 have:=Nat.mod_lt (r j) (show 0<4+1 by decide)
 split
 .exact ⟨by omega,by omega,λh=>by omega⟩
 .exact ⟨by omega,by omega,λ_=>rfl⟩
theorem KP{X:List R4}{n most top:Nat}{y:Nat->Int}(h:y∈Ki X n most top):∃r∈X,y=mdM n top r:=by
 obtain ⟨r,hr,rfl⟩:=List.mem_map.1 h
 exact ⟨r,List.mem_of_mem_take hr,rfl⟩
theorem A4h(n:Nat)(r:R4):BQ 8 0 (mdM n 4 r)<=16:=by
 have h:=Qt n r
 simp only [BQ]
 have h0:=h 0;have h1:=h 1;have h2:=h 2;have h3:=h 3
 have e4:=(h 4).2.2 (.inr (by decide));have e5:=(h 5).2.2 (.inr (by decide));have e6:=(h 6).2.2 (.inr (by decide));have e7:=(h 7).2.2 (.inr (by decide))
 simp only [Nat.zero_add,Nat.reduceAdd,e4,e5,e6,e7]
 omega
theorem SU{X:List R4}{n most:Nat}:∀y∈Ki X n most 4,SupN n y:=λy hy j hj=>by
 obtain ⟨r,_,rfl⟩:=KP hy
 exact ⟨(Qt n r j).1,λh=>(Qt n r j).2.2 (.inl h)⟩
theorem A2E{X:List R4}{n most:Nat}:∀y∈Ki X n most 4,In8 y 0 64:=λy hy j hj=>by
 obtain ⟨r,_,rfl⟩:=KP hy
 have:=Qt n r j
 exact ⟨this.1,by omega⟩
theorem Zs{X:List R4}{n most:Nat}:∀y∈Ki X n most 4,BQ 8 0 y<=16:=λy hy=>by
 obtain ⟨r,_,rfl⟩:=KP hy
 exact A4h n r
theorem A31{n k:Nat}(hn:n<=4)(hk:k<=12):(2:Int)^k*(((16*k:Nat):Int)+1)^(n+1)<=9223372036854775807:=by
 have h1:(16*k+1)^(n+1)<=193^5:=Nat.le_trans (Nat.pow_le_pow_left (by omega) _) (Nat.pow_le_pow_right (by decide) (by omega))
 have h0:2^k<=2^12:=Nat.pow_le_pow_right (by decide) hk
 have h2:(2:Int)^k*(((16*k:Nat):Int)+1)^(n+1)=((2^k*(16*k+1)^(n+1):Nat):Int):=by
  push_cast
  rfl
 have h3:2^k*(16*k+1)^(n+1)<=2^12*193^5:=Nat.mul_le_mul h0 h1
 have h4:2^12*193^5<=9223372036854775807:=by decide
 rw [h2]
 omega
theorem A3g(X:List R4)(n most:Nat)(hn:n<=4)(hm:most<=12):∃N f,HilC (Ki X n most 4) n N f:=Pa most 16 n _ (by omega) hm (KQ X n most 4) (by decide) A2E SU Zs (A31 hn hm)
theorem A3r{n d:Nat}(hn:n<=4)(hd:d<=64):(4096:Int)*(((d:Nat):Int)+1)^n<=9223372036854775807:=by
 have h:(d+1)^n<=65^4:=Nat.le_trans (Nat.pow_le_pow_left (by omega) _) (Nat.pow_le_pow_right (by decide) hn)
 have h2:(4096:Int)*(((d:Nat):Int)+1)^n=((4096*(d+1)^n:Nat):Int):=by
  push_cast
  rfl
 have h3:4096*(d+1)^n<=4096*65^4:=Nat.mul_le_mul_left _ h
 have h4:4096*65^4<=9223372036854775807:=by decide
 rw [h2]
 omega
theorem HilC.count{l:Ai}{n N d:Nat}{f:Nat->Int}(hc:HilC l n N f)(hn:n<=4)(hd:d<=64)(h2:∀y∈l,SupN n y):Abs Tryz.prog 16 [AZ l,ex (.int .i64 (n:Nat)),ex (.int .i64 (d:Nat))] (BC [ex (.int .i64 (hN n d l)),ex (.int .i64 0)]):=by
 rw [<-hc.num.num n (by omega) h2 d]
 exact Og l n d N f 4096 (by omega) hd hc.ck hc.cn hc.num.far (λt _=>hc.bnd t) (A3r hn hd)
theorem Lc{P:Program}{hp:List Ow}{arg:Operand->AV}{dd:Option Tmp}{ty:TypeId}{ps:String}{af:Array Edge}{gd:Option (Nat×Bool)}{T U:TypeId}{x y:Operand}{n N:Nat}(hx:arg x = .d (ex (.int .i64 1)))(hy:arg y = .d (ex (.int .i64 (n:Nat))))(hn:n<=60)(hN:N=2^n):Quiet P hp ⟨dd,.binOp .shl T x y U,ty,ps,af,gd⟩ arg (.d (ex (.int .i64 (N:Nat)))):=by
 have h1:2^n<=2^60:=Nat.pow_le_pow_right (by decide) hn
 have h2:2^60<=9223372036854775807:=by decide
 have:=A0v (dd:=dd) (ty:=ty) (ps:=ps) (af:=af) (gd:=gd) (hp:=hp) (T:=T) (U:=U) (P:=P) (a:=1) (n:=n) hx hy (by omega) (by omega)
 rw [Nat.one_mul] at this
 subst hN
 exact this
theorem Vv{L:List Nat}{i:Nat}(h:i<L.length):L.getD i default=L[i]:=by
 rw [List.getD_eq_getElem?_getD,List.getElem?_eq_getElem h]
 rfl
theorem RX(l:Ai)(n d:Int)(F:Nat->Rat)(hd:d<=0)(ck:Abs Tryz.prog 46 [AZ l,ex (.int .i64 n)] (ex (.int .i64 0)))(cd:Abs Tryz.prog 55 [AZ l,ex (.int .i64 n)] (ex (.int .i64 d))):Abs Tryz.prog 26 [AZ l,ex (.int .i64 n)] (BC [BP 0 F,ex (.int .i64 0)]):=by
 refine Ab Tryz.func26 λs0=>?_
 rw [Tryz.ntmps26]
 refine Y1<|Wa<|Wa<|Y0<|Aa<|Y1<|Wm<|Wm ?_;refine Wq (Ad (ck)) ?_;refine Wa<|Y0<|Y1<|Wm ?_;refine Wq Aj ?_;refine Y0<|Cf<|Ys<|Y1<|Wm<|Wm ?_;refine Wq (Ad (cd)) ?_;refine Wa<|Y0<|Aa<|Y1<|Wm ?_;refine Wq Ak ?_;refine Y0<|Ct<|Y1<|Wa<|Wa<|Y0<|Am<|AP ?_
 exact AN (BA (ResV.tmp rfl rfl) (ResV.tmp rfl rfl) (Be (Dw) (D.le.refl _)))
def VH(N r:Nat)(f:Nat->Int):Prop:=∀k,k<r->∀i,i<=(cN N f k).1->-9223372036854775808<=Ba i (BU k f)/\Ba i (BU k f)<=9223372036854775807
theorem Ju(N r:Nat)(f:Nat->Int)(hN:N<=100000)(hr:r<=100)(hs:VH N r f):Abs Tryz.prog 57 [nD N f,ex (.int .i64 (r:Nat))] (nD (cN N f r).1 (BU r f)):=by
 refine Ab Tryz.func57 λs0=>?_
 rw [Tryz.ntmps57]
 refine Y1<|Wa<|Y0<|Aa<|Y1<|Wa<|Y0<|AWp.block ?_
 refine AC (λmz σ=>∃k,k<=r/\mz=r-k/\σ=⟨[(0,.d (nD (cN N f k).1 (BU k f))),(1,.d (ex (.int .i64 (r:Nat)))),(5,.d (ex (.int .i64 (k:Nat))))],[]⟩) ?le ⟨0,by omega,rfl,rfl⟩ ?round
 case le=>exact Ah (by exact Yd<|Yd<|Yd<|FrLe.nil) (by exact HpLe.nil)
 case round=>
  rintro mz _ ⟨k,hk,rfl,rfl⟩
  by_cases hlt:k<r
  .have hM:=Mi N f k
   have hsk:=hs k hlt
   have ct:=NS (BU (k+1) f) (cN N f k).1 (by omega)
   have he:nD (FM (BU (k+1) f) (cN N f k).1) (BU (k+1) f)=nD (cN N f (k+1)).1 (BU (k+1) f):=by
    rw [cN,Pj]
    rfl
   rw [he] at ct
   refine Aa<|Y1<|Wm<|Wm ?_;refine Wq Ak ?_;refine Y0<|Ct<|Ys<|Aa<|AWp.block<|Y1 ?_;refine CW (Ac rfl) (Ac rfl) rfl rfl rfl rfl rfl ?_;refine Wa<|Y0<|Y1<|Wa<|Y0<|Aa<|Y1<|Wa<|Y0<|AWp.block ?_
   refine AC (λmz σ=>∃i,i<=(cN N f k).1/\mz=(cN N f k).1-i/\σ=⟨[(0,.d (nD (cN N f k).1 (BU k f))),(1,.d (ex (.int .i64 (r:Nat)))),(5,.d (ex (.int .i64 (k:Nat)))),(6,.own 0),(7,.d (ex (.int .i64 (Ba i (BU k f))))),(8,.d (ex (.int .i64 (i:Nat))))],[.row 3 1 ((List.range i).map λt=>[ex (.int .i64 (BU (k+1) f t))])]⟩) ?lei ⟨0,by omega,rfl,rfl⟩ ?roundi
   case lei=>exact Ah (by exact Yd<|Yd<|Yd<|FrLe.cons rfl (AVle.own rfl)<|Yd<|Yd<|FrLe.nil) (by exact Yr<|HpLe.nil)
   case roundi=>
    rintro mz _ ⟨i,hi,rfl,rfl⟩
    by_cases hlti:i<(cN N f k).1
    .have h1:=hsk (i+1) (by omega)
     have h2:Ba (i+1) (BU k f)=Ba i (BU k f)+BU k f i:=rfl
     have h3:BU (k+1) f i=Ba i (BU k f)+BU k f i:=rfl
     refine Aa<|Y1<|Wm<|Wm ?_;refine Wq (BX (n:=(cN N f k).1) (f:=BU k f) rfl (Ac rfl)) ?_;refine Wq Ak ?_;refine Y0<|Ct<|Ys<|Aa<|AWp.block<|Y1<|Wm<|Wm<|Wm ?_;refine Wq (FI (m:=(cN N f k).1) (k:=i) (f:=BU k f) rfl (ao rfl) (Ac rfl) (Ac rfl) rfl hlti) ?_;refine Wq CA ?_;refine Wq CC ?_;refine Wa<|Y0<|AWp.region<|Wm<|Wm ?_;(refine CD rfl rfl ?_;(refine Cl (Ac rfl) (Ac rfl) rfl rfl rfl rfl rfl ?_;(repeat ((first | refine ⟨_,AW (ao rfl),?_⟩ | refine ⟨_,Po rfl,?_⟩);refine ⟨_,rfl,?_⟩));refine ⟨_,rfl,?_⟩));(refine GE (ao rfl) rfl rfl (Ac rfl) (Ac rfl) rfl rfl (by simp [Bo];omega) (by simp [Bo];omega) rfl (by first | ((repeat (first | exact PlainHp.nil | refine PlainHp.var ?_ | refine Ck ?_ | refine PlainHp.dead ?_ | refine PlainHp.obj ?_ | refine PlainHp.pin rfl ?_ | refine BY rfl ?_));done) | fail) rfl ?_);refine Wa<|AWl.nil<|Ag<|Yn<|AWp.region<|Wm ?_;refine Wq AD ?_;refine Wa<|AWl.nil ?_
     refine ALoop.next ((cN N f k).1-(i+1)) (by omega) ⟨i+1,by omega,rfl,rfl⟩ ?_
     exact Ah (by exact Yd<|Yd<|Yd<|FrLe.cons rfl (AVle.own rfl)<|Yd<|Yd<|FrLe.nil) (by (refine HpLe.cons (Ca (by rw [List.range_succ,List.map_append];rfl)) ?_);exact HpLe.nil)
    .obtain rfl:i=(cN N f k).1:=by omega
     refine Aa<|Y1<|Wm<|Wm ?_;refine Wq (BX (n:=(cN N f k).1) (f:=BU k f) rfl (Ac rfl)) ?_;refine Wq Aj ?_;refine Y0<|Cf<|AA<|Aq<|Ar<|ABlock.hit<|Yn<|AWp.region<|Wm ?_;refine Wq (Ad (ct)) ?_;refine Wa<|AWl.nil<|Ag<|Yn<|AWp.region<|Wm ?_;refine Wq AD ?_;refine Wa<|AWl.nil ?_
     refine ALoop.next (r-(k+1)) (by omega) ⟨k+1,by omega,rfl,rfl⟩ ?_
     exact Ah (by exact Yd<|Yd<|Yd<|FrLe.nil) (by exact HpLe.nil)
  .obtain rfl:k=r:=by omega
   refine Aa<|Y1<|Wm<|Wm ?_;refine Wq Aj ?_;refine Y0<|Cf<|AA<|Aq<|Ar<|ABlock.hit<|Yn<|Y1<|Wm<|Wa<|Y0<|Am ?_
   exact Yf
theorem Wt{s t:Nat}(hs:s<256)(ht:t<256)(h:IS s t=true):DI s<=DI t:=by
 rw [OI,OI]
 have hb:=(ER hs ht).1 h
 have key:∀(k i:Nat),IH k i s.testBit<=IH k i t.testBit:=by
  intro k
  induction k with
  | zero=>intro i;exact Nat.le_refl 0
  | succ k ih=>
   intro i
   have:=ih (i+1)
   rw [IH,IH]
   cases h1:s.testBit i
   .rw [if_neg Bool.false_ne_true]
    split<;>omega
   .rw [if_pos rfl,if_pos (hb i h1)]
    omega
 exact key 8 0
theorem ZS(l:Ai)(N:Nat)(hN:N<=256):Fe (GJ l N)=Fe (DJ l N):=by
 have h1:Fe (GJ l N)<=Fe (DJ l N):=by
  rcases Ph (GJ l N) with h | ⟨s,hs,h⟩
  .rw [h]
   exact (Jp _).1
  .rw [h]
   exact Pg (List.mem_filter.1 hs).1
 have h2:Fe (DJ l N)<=Fe (GJ l N):=by
  rcases Ph (DJ l N) with h | ⟨s,hs,h⟩
  .rw [h]
   exact (Jp _).1
  .rw [h]
   obtain ⟨h3,h4⟩:=List.mem_filter.1 hs
   have h3:=List.mem_range.1 h3
   obtain ⟨t,ht,hst⟩:=Ny (l:=l) (N:=N) hN (N-s) s (Nat.le_refl _) h3 h4
   have ht2:=(KR.1 ht).1
   have h5:=Wt (by omega) (by omega) hst
   have h6:=Pg ht
   omega
 omega
theorem Xb{L:List Nat}{k:Nat}(h:k<L.length):Fe (L.take (k+1))=max (Fe (L.take k)) ((DI (L.getD k default):Nat):Int):=by
 rw [List.take_add_one,List.getElem?_eq_getElem h,Vv h]
 exact NH _ _
section
variable {P:Program} {hp:List Ow} {arg:Operand->AV} {dd:Option Tmp} {ty:TypeId} {ps:String} {af:Array Edge} {gd:Option (Nat×Bool)}
theorem VN{T U:TypeId}{x y:Operand}{a b:Nat}(hx:arg x = .d (ex (.int .i64 (a:Nat))))(hy:arg y = .d (ex (.int .i64 (b:Nat))))(ha:a<256)(hb:b<256):Quiet P hp ⟨dd,.binOp .or T x y U,ty,ps,af,gd⟩ arg (.d (ex (.int .i64 ((a ||| b:Nat):Int)))):=by
 refine PG hx hy λw=>?_
 have h1:(BitVec.ofInt 64 (a:Int) ||| BitVec.ofInt 64 (b:Int)).toNat=a ||| b:=by
  rw [BitVec.toNat_or,BitVec.ofInt_natCast,BitVec.ofInt_natCast,BitVec.toNat_ofNat,BitVec.toNat_ofNat,Nat.mod_eq_of_lt (show a<2^64 by omega),Nat.mod_eq_of_lt (show b<2^64 by omega)]
 have h2:a ||| b<256:=Nat.or_lt_two_pow (n:=8) ha hb
 have h3:IntKind.i64.wrap ((a ||| b:Nat):Int)=((a ||| b:Nat):Int):=IntWalk.i64_in _ (by omega)
 have h4:(BitVec.ofInt IntKind.i64.bits (a:Int) ||| BitVec.ofInt IntKind.i64.bits (b:Int)).toNat=a ||| b:=h1
 have h5:((BitVec.ofInt IntKind.i64.bits (a:Int) ||| BitVec.ofInt IntKind.i64.bits (b:Int)).toNat:Int)=((a ||| b:Nat):Int):=by rw [h4]
 show Sem.run P (do eqGuard .or T x y (.int .i64 a) (.int .i64 b);binOp .or T (.int .i64 a) (.int .i64 b)) w=_
 simp only [eqGuard,binOp,Op.intBits,h5,h3]
 rfl
end
theorem PB{P:Program}{hp:List Ow}{arg:Operand->AV}{dd:Option Tmp}{ty:TypeId}{ps:String}{af:Array Edge}{gd:Option (Nat×Bool)}{T U:TypeId}{x y:Operand}{a n c:Nat}(hx:arg x = .d (ex (.int .i64 (a:Nat))))(hy:arg y = .d (ex (.int .i64 (n:Nat))))(hn:n<=63)(hc:c=2^n):Quiet P hp ⟨dd,.binOp .shr T x y U,ty,ps,af,gd⟩ arg (.d (ex (.int .i64 ((a/c:Nat):Int)))):=by
 subst hc
 exact Mw hx hy hn
def mxP(l:Ai)(s:Nat):Nat->Bool
 | 0=>EG l s
 | i+1=>mxP l s i&&(decide (s/2^i%2=1) || !EG l (s ||| 2^i))
theorem UZ(l:Ai)(s:Nat):∀n,mxP l s n=JS l n s
 | 0=>by
  unfold mxP JS
  simp
 | n+1=>by
  have h:=UZ l s n
  unfold JS at h ⊢
  rw [mxP,h,List.range_succ,List.all_append,Bool.and_assoc]
  congr 2
  simp
theorem TB(l:Ai)(n:Nat)(hn:n<=8)(hl:l.length<=1000)(ck:Abs Tryz.prog 48 [AZ l,ex (.int .i64 (n:Nat))] (ex (.int .i64 0))):Abs Tryz.prog 19 [AZ l,ex (.int .i64 (n:Nat))] (BC [Oo (GJ l (2^n)),ex (.int .i64 0)]):=by
 rw [Zu l n hn]
 obtain ⟨N,hN⟩:∃N,N=2^n:=⟨_,rfl⟩
 have hN8:N<=256:=by rw [hN];exact Nat.pow_le_pow_right (n:=2) (j:=8) (by decide) hn
 rw [<-hN]
 refine Ab Tryz.func19 λs0=>?_
 rw [Tryz.ntmps19]
 refine Y1<|Wa<|Wa<|Y0<|Y1<|Wm<|Wm ?_;refine Wq (Ad (ck)) ?_;refine Wa<|Y0<|Aa<|Y1<|Wm ?_;refine Wq Aj ?_;refine Y0<|Cf<|Ys<|Y1 ?_;refine CW (Ac rfl) (Ac rfl) rfl rfl rfl rfl rfl ?_;refine Wa<|Y0<|Aa<|Y1<|Wa<|Y0<|AWp.block ?_
 refine AC (λmz σ=>∃k,k<=N/\mz=N-k/\σ=⟨[(0,.d (AZ l)),(1,.d (ex (.int .i64 (n:Nat)))),(7,.own 0),(8,.d (ex (.int .i64 (k:Nat))))],[.row 5 1 (((List.range k).filter (JS l n)).map λs=>[ex (.int .u8 ((s:Nat):Int))])]⟩) ?le ⟨0,by omega,rfl,rfl⟩ ?round
 case le=>exact Ah (by exact Yd<|Yd<|FrLe.cons rfl (AVle.own rfl)<|Yd<|FrLe.nil) (by exact Yr<|HpLe.nil)
 case round=>
  rintro mz _ ⟨k,hk,rfl,rfl⟩
  by_cases hlt:k<N
  .have hk256:k<256:=by omega
   have ci:=Mp l k hk256 hl
   have hfl:((List.range k).filter (JS l n)).length<=k:=by
    have:=List.length_filter_le (JS l n) (List.range k)
    rwa [List.length_range] at this
   refine Aa<|Y1<|Wm<|Wm ?_;refine Wq (Lc (n:=n) (N:=N) (ao rfl) (ao rfl) (by omega) hN) ?_;refine Wq Ak ?_;refine Y0<|Ct<|Ys<|Aa<|AWp.block<|Y1<|Wm<|Wm ?_;refine Wq (Ad (ci)) ?_;refine Wa<|Y0<|Aa<|Y1<|Wa<|Y0<|AWp.block ?_
   refine AC (λmz σ=>∃i,i<=n/\mz=n-i/\σ=⟨[(0,.d (AZ l)),(1,.d (ex (.int .i64 (n:Nat)))),(7,.own 0),(8,.d (ex (.int .i64 (k:Nat)))),(9,.d (ex (.bool (mxP l k i)))),(10,.d (ex (.int .i64 (i:Nat))))],[.row 5 1 (((List.range k).filter (JS l n)).map λs=>[ex (.int .u8 ((s:Nat):Int))])]⟩) ?lei ⟨0,by omega,rfl,rfl⟩ ?roundi
   case lei=>exact Ah (by exact Yd<|Yd<|FrLe.cons rfl (AVle.own rfl)<|Yd<|Yd<|Yd<|FrLe.nil) (by exact Yr<|HpLe.nil)
   case roundi=>
    rintro mz _ ⟨i,hi,rfl,rfl⟩
    by_cases hlti:i<n
    .have hstep:mxP l k (i+1)=(mxP l k i&&(decide (k/2^i%2=1) || !EG l (k ||| 2^i))):=rfl
     obtain ⟨b2,hb2⟩:∃b2,b2=2^i:=⟨_,rfl⟩
     have hb256:b2<256:=by rw [hb2];exact Nat.pow_lt_pow_right (a:=2) (n:=8) (by decide) (by omega)
     have ho:k ||| b2<256:=Nat.or_lt_two_pow (n:=8) hk256 hb256
     have co:=Mp l (k ||| b2) ho hl
     rw [<-hb2] at hstep
     cases hm:mxP l k i
     .rw [hm,Bool.false_and] at hstep
      refine Aa<|Y1<|Wm<|Wm ?_;refine Wq Ak ?_;refine Y0<|Ct<|Ys<|Aa<|AWp.block<|AWp.region<|Wm<|Wm ?_;refine Ws ?_;refine Ws ?_;refine Ws ?_;refine Ws ?_;refine Ws ?_;refine Ws ?_;refine Ws ?_;refine Ws ?_;refine Ws ?_;refine Ws ?_;refine Ws ?_;refine Ws ?_;refine Ws ?_;refine Ws ?_;refine Wq Bc ?_;refine Wa<|AWl.nil<|Ag<|Yn<|AWp.region<|Wm ?_;refine Wq AD ?_;refine Wa<|AWl.nil ?_
      refine ALoop.next (n-(i+1)) (by omega) ⟨i+1,by omega,rfl,rfl⟩ ?_
      exact Ah (by exact Yd<|Yd<|FrLe.cons rfl (AVle.own rfl)<|Yd<|FrLe.cons rfl (AVle.bool (by rw [hstep]))<|Yd<|FrLe.nil) (by exact Yr<|HpLe.nil)
     .rw [hm,Bool.true_and] at hstep
      by_cases hbit:k/b2%2=1
      .rw [decide_eq_true hbit,Bool.true_or] at hstep
       have hbi:((k/b2%2:Nat):Int)=1:=by omega
       refine Aa<|Y1<|Wm<|Wm ?_;refine Wq Ak ?_;refine Y0<|Ct<|Ys<|Aa<|AWp.block<|AWp.region<|Wm<|Wm ?_;refine Wg Af ?_;refine Wg Af ?_;refine Wg (PB (a:=k) (n:=i) (c:=b2) (ao rfl) (ao rfl) (by omega) hb2) ?_;refine Wg (HK (a:=k/b2) (b:=2) (ao rfl) (ao rfl) (by decide)) ?_;refine Wg Ak ?_;refine Wg Af ?_;refine Ws ?_;refine Ws ?_;refine Ws ?_;refine Ws ?_;refine Ws ?_;refine Ws ?_;refine Ws ?_;refine Wg AM ?_;refine Wq AM ?_;refine Wa<|AWl.nil<|Ag<|Yn<|AWp.region<|Wm ?_;refine Wq AD ?_;refine Wa<|AWl.nil ?_
       refine ALoop.next (n-(i+1)) (by omega) ⟨i+1,by omega,rfl,rfl⟩ ?_
       exact Ah (by exact Yd<|Yd<|FrLe.cons rfl (AVle.own rfl)<|Yd<|FrLe.cons rfl (AVle.bool (by rw [hstep]))<|Yd<|FrLe.nil) (by exact Yr<|HpLe.nil)
      .have hbi:¬((k/b2%2:Nat):Int)=1:=by omega
       rw [decide_eq_false hbit,Bool.false_or] at hstep
       cases hb:EG l (k ||| b2)
       .rw [hb] at co hstep
        refine Aa<|Y1<|Wm<|Wm ?_;refine Wq Ak ?_;refine Y0<|Ct<|Ys<|Aa<|AWp.block<|AWp.region<|Wm<|Wm ?_;refine Wg Af ?_;refine Wg Af ?_;refine Wg (PB (a:=k) (n:=i) (c:=b2) (ao rfl) (ao rfl) (by omega) hb2) ?_;refine Wg (HK (a:=k/b2) (b:=2) (ao rfl) (ao rfl) (by decide)) ?_;refine Wg Aj ?_;refine Wg Af ?_;refine Wg Af ?_;refine Wg Af ?_;refine Wg Af ?_;refine Wg (Lc (n:=i) (N:=b2) (ao rfl) (ao rfl) (by omega) hb2) ?_;refine Wg (VN (a:=k) (b:=b2) (ao rfl) (ao rfl) hk256 hb256) ?_;refine Wg (Ad (co)) ?_;refine Wg BH ?_;refine Wg Bc ?_;refine Wq AM ?_;refine Wa<|AWl.nil<|Ag<|Yn<|AWp.region<|Wm ?_;refine Wq AD ?_;refine Wa<|AWl.nil ?_
        refine ALoop.next (n-(i+1)) (by omega) ⟨i+1,by omega,rfl,rfl⟩ ?_
        exact Ah (by exact Yd<|Yd<|FrLe.cons rfl (AVle.own rfl)<|Yd<|FrLe.cons rfl (AVle.bool hstep.symm)<|Yd<|FrLe.nil) (by exact Yr<|HpLe.nil)
       .rw [hb] at co hstep
        refine Aa<|Y1<|Wm<|Wm ?_;refine Wq Ak ?_;refine Y0<|Ct<|Ys<|Aa<|AWp.block<|AWp.region<|Wm<|Wm ?_;refine Wg Af ?_;refine Wg Af ?_;refine Wg (PB (a:=k) (n:=i) (c:=b2) (ao rfl) (ao rfl) (by omega) hb2) ?_;refine Wg (HK (a:=k/b2) (b:=2) (ao rfl) (ao rfl) (by decide)) ?_;refine Wg Aj ?_;refine Wg Af ?_;refine Wg Af ?_;refine Wg Af ?_;refine Wg Af ?_;refine Wg (Lc (n:=i) (N:=b2) (ao rfl) (ao rfl) (by omega) hb2) ?_;refine Wg (VN (a:=k) (b:=b2) (ao rfl) (ao rfl) hk256 hb256) ?_;refine Wg (Ad (co)) ?_;refine Wg BH ?_;refine Wg Bc ?_;refine Wq AM ?_;refine Wa<|AWl.nil<|Ag<|Yn<|AWp.region<|Wm ?_;refine Wq AD ?_;refine Wa<|AWl.nil ?_
        refine ALoop.next (n-(i+1)) (by omega) ⟨i+1,by omega,rfl,rfl⟩ ?_
        exact Ah (by exact Yd<|Yd<|FrLe.cons rfl (AVle.own rfl)<|Yd<|FrLe.cons rfl (AVle.bool hstep.symm)<|Yd<|FrLe.nil) (by exact Yr<|HpLe.nil)
    .obtain rfl:i=n:=by omega
     have hme:=UZ l k i
     cases hb:JS l i k
     .rw [hb] at hme
      rw [hme]
      refine Aa<|Y1<|Wm<|Wm ?_;refine Wq Aj ?_;refine Y0<|Cf<|AA<|Aq<|Ar<|ABlock.hit<|Yn<|Y1<|Wm<|Y0<|Cf<|AWp.skip<|Ag<|Yn<|AWp.region<|Wm ?_;refine Wq AD ?_;refine Wa<|AWl.nil ?_
      refine ALoop.next (N-(k+1)) (by omega) ⟨k+1,by omega,rfl,rfl⟩ ?_
      exact Ah (by exact Yd<|Yd<|FrLe.cons rfl (AVle.own rfl)<|Yd<|FrLe.nil) (by (refine HpLe.cons (Ca (by rw [List.range_succ,List.filter_append,List.filter_cons,hb];simp)) ?_);exact HpLe.nil)
     .rw [hb] at hme
      rw [hme]
      refine Aa<|Y1<|Wm<|Wm ?_;refine Wq Aj ?_;refine Y0<|Cf<|AA<|Aq<|Ar<|ABlock.hit<|Yn<|Y1<|Wm<|Y0<|Ct<|AWp.region<|Wm<|Wm ?_;refine Wq (My (a:=k) (ao rfl) (Ac rfl) (Ac rfl) hk256) ?_;(refine CD rfl rfl ?_;(refine Cl (Ac rfl) (Ac rfl) rfl rfl rfl rfl rfl ?_;(repeat ((first | refine ⟨_,AW (ao rfl),?_⟩ | refine ⟨_,Po rfl,?_⟩);refine ⟨_,rfl,?_⟩));refine ⟨_,rfl,?_⟩));(refine GE (ao rfl) rfl rfl (Ac rfl) (Ac rfl) rfl rfl (by simp [Bo];omega) (by simp [Bo];omega) rfl (by first | ((repeat (first | exact PlainHp.nil | refine PlainHp.var ?_ | refine Ck ?_ | refine PlainHp.dead ?_ | refine PlainHp.obj ?_ | refine PlainHp.pin rfl ?_ | refine BY rfl ?_));done) | fail) rfl ?_);refine Wa<|AWl.nil<|Ag<|Yn<|AWp.region<|Wm ?_;refine Wq AD ?_;refine Wa<|AWl.nil ?_
      have hfs:(List.range k).filter (JS l i)++[k]=(List.range (k+1)).filter (JS l i):=by simp [List.range_succ,List.filter_append,hb]
      refine ALoop.next (N-(k+1)) (by omega) ⟨k+1,by omega,rfl,rfl⟩ ?_
      exact Ah (by exact Yd<|Yd<|FrLe.cons rfl (AVle.own rfl)<|Yd<|FrLe.nil) (by refine HpLe.cons (Ca ((On _ k).trans (by rw [hfs]))) ?_;exact HpLe.nil)
  .obtain rfl:k=N:=by omega
   refine Aa<|Y1<|Wm<|Wm ?_;refine Wq (Lc (n:=n) (N:=k) (ao rfl) (ao rfl) (by omega) hN) ?_;refine Wq Aj ?_;refine Y0<|Cf<|AA<|Aq<|Ar<|ABlock.hit<|Yn<|Y1<|Wm<|Wa<|Wa<|Y0<|Am ?_
   exact AN (BA (ResV.tmp rfl rfl) (ResV.tmp rfl rfl) (Be (D.le.refl _) (D.le.refl _)))
theorem TC(l:Ai)(n:Nat)(hn:n<=8)(ci:Abs Tryz.prog 19 [AZ l,ex (.int .i64 (n:Nat))] (BC [Oo (GJ l (2^n)),ex (.int .i64 0)])):Abs Tryz.prog 23 [AZ l,ex (.int .i64 (n:Nat))] (BC [ex (.int .i64 (EF l n)),ex (.int .i64 0)]):=by
 obtain ⟨N,hN⟩:∃N,N=2^n:=⟨_,rfl⟩
 have hN8:N<=256:=by rw [hN];exact Nat.pow_le_pow_right (n:=2) (j:=8) (by decide) hn
 have hend:Fe (GJ l N)=EF l n:=by rw [ZS l N hN8,hN]
 rw [<-hN] at ci
 rw [<-hend]
 obtain ⟨L,hL⟩:∃L,L=GJ l N:=⟨_,rfl⟩
 have hLm:∀i,i<L.length->L.getD i default<N:=λi hi=>by
  have:L[i]∈GJ l N:=hL▸List.getElem_mem hi
  rw [Vv hi]
  exact (KR.1 this).1
 have hLl:L.length<=256:=by
  have h1:L.length<=(DJ l N).length:=hL▸List.length_filter_le _ _
  have h2:=KV l N
  omega
 rw [<-hL] at ci ⊢
 refine Ab Tryz.func23 λs0=>?_
 rw [Tryz.ntmps23]
 refine Y1<|Wa<|Wa<|Y0<|Y1<|Wm<|Wm ?_;refine Wq (Ad (ci)) ?_;refine Wm ?_;refine Wq AI ?_;refine Wq AI ?_;refine Wa<|Wa<|Y0<|Aa<|Y1<|Wm ?_;refine Wq Aj ?_;refine Y0<|Cf<|Ys<|Y1<|Wa<|Y0<|Aa<|Y1<|Wa<|Y0<|AWp.block ?_
 refine AC (λmz σ=>∃k,k<=L.length/\mz=L.length-k/\σ=⟨[(6,.d (Oo L)),(8,.d (ex (.int .i64 (Fe (L.take k))))),(9,.d (ex (.int .i64 (k:Nat))))],[]⟩) ?le ⟨0,by omega,rfl,rfl⟩ ?round
 case le=>exact Ah (by exact Yd<|Yd<|Yd<|FrLe.nil) (by exact HpLe.nil)
 case round=>
  rintro mz _ ⟨k,hk,rfl,rfl⟩
  by_cases hlt:k<L.length
  .have hk:=hLm k hlt
   have co:=Xy (L.getD k default) (by omega)
   have hst:=Xb hlt
   refine Aa<|Y1<|Wm<|Wm ?_;refine Wq AR ?_;refine Wq Ak ?_;refine Y0<|Ct<|Ys<|Aa<|AWp.block<|AWp.region<|Wm<|Wm<|Wm ?_;refine Wq AE ?_;refine Wq CA ?_;refine Wq (Ad (co)) ?_;refine Wq IA ?_;refine Wa<|AWl.nil<|Ag<|Yn<|AWp.region<|Wm ?_;refine Wq AD ?_;refine Wa<|AWl.nil ?_
   refine ALoop.next (L.length-(k+1)) (by omega) ⟨k+1,by omega,rfl,rfl⟩ ?_
   exact Ah (by exact Yd<|FrLe.cons rfl (AVle.int hst.symm)<|Yd<|FrLe.nil) (by exact HpLe.nil)
  .obtain rfl:k=L.length:=by omega
   rw [List.take_length]
   refine Aa<|Y1<|Wm<|Wm ?_;refine Wq AR ?_;refine Wq Aj ?_;refine Y0<|Cf<|AA<|Aq<|Ar<|ABlock.hit<|Yn<|Y1<|Wm<|Wa<|Wa<|Y0<|Am ?_
   exact AN (BA (ResV.tmp rfl rfl) (ResV.tmp rfl rfl) (Be (D.le.refl _) (D.le.refl _)))
theorem XD(l:Ai)(n N:Nat)(f:Nat->Int)(hn:n<=8)(hN:N<=100000)(hs:VH N (n+1) f)(cn:Abs Tryz.prog 15 [AZ l,ex (.int .i64 (n:Nat))] (BC [nD N f,ex (.int .i64 0)]))(cd:Abs Tryz.prog 23 [AZ l,ex (.int .i64 (n:Nat))] (BC [ex (.int .i64 (EF l n)),ex (.int .i64 0)]))(hle:EF l n<=n)(h0:EF l n<0->∀i,BU n f i=0):Abs Tryz.prog 25 [AZ l,ex (.int .i64 (n:Nat))] (BC [ex (.int .i64 (Ti l n N f)),ex (.int .i64 0)]):=by
 obtain ⟨r,hr⟩:∃r:Nat,((r:Nat):Int)=((n:Nat):Int)-max (EF l n) 0:=⟨n-(EF l n).toNat,by omega⟩
 have hrn:r<=n:=by omega
 have hdg:Ti l n N f=Ba (cN N f r).1 (BU r f):=by
  unfold Ti
  by_cases h:EF l n<0
  .rw [if_pos h]
   obtain rfl:r=n:=by omega
   exact (CF λi _=>h0 h i).symm
  .rw [if_neg h]
   obtain rfl:r=n-(EF l n).toNat:=by omega
   rfl
 obtain ⟨dz,hdz⟩:∃dz,dz=EF l n:=⟨_,rfl⟩
 rw [<-hdz] at cd hr hle
 have cr:=Ju N r f hN (by omega) λk hk i hi=>hs k (by omega) i hi
 rw [hr] at cr
 have hsr:=hs r (by omega)
 have hM:=Mi N f r
 rw [hdg]
 obtain ⟨M,hM2⟩:∃M,M=(cN N f r).1:=⟨_,rfl⟩
 rw [<-hM2] at cr hsr hM ⊢
 refine Ab Tryz.func25 λs0=>?_
 rw [Tryz.ntmps25]
 refine Y1<|Wa<|Wa<|Y0<|Y1<|Wm<|Wm ?_;refine Wq (Ad (cn)) ?_;refine Wm ?_;refine Wq AI ?_;refine Wq AI ?_;refine Wa<|Wa<|Y0<|Aa<|Y1<|Wm ?_;refine Wq Aj ?_;refine Y0<|Cf<|Ys<|Y1<|Wm<|Wm ?_;refine Wq (Ad (cd)) ?_;refine Wm ?_;refine Wq AI ?_;refine Wq AI ?_;refine Wa<|Wa<|Y0<|Y1<|Wm<|Wm<|Wm ?_;refine Wq IA ?_;refine Wq DV ?_;refine Wq (Ad (cr)) ?_;refine Wa<|Y0<|Y1<|Wa<|Y0<|Aa<|Y1<|Wa<|Y0<|AWp.block ?_
 refine AC (λmz σ=>∃k,k<=M/\mz=M-k/\σ=⟨[(10,.d (nD M (BU r f))),(11,.d (ex (.int .i64 (Ba k (BU r f))))),(12,.d (ex (.int .i64 (k:Nat))))],[]⟩) ?le ⟨0,by omega,rfl,rfl⟩ ?round
 case le=>exact Ah (by exact Yd<|Yd<|Yd<|FrLe.nil) (by exact HpLe.nil)
 case round=>
  rintro mz _ ⟨k,hk,rfl,rfl⟩
  by_cases hlt:k<M
  .have h1:=hsr (k+1) (by omega)
   have h2:Ba (k+1) (BU r f)=Ba k (BU r f)+BU r f k:=rfl
   refine Aa<|Y1<|Wm<|Wm ?_;refine Wq (BX (n:=M) (f:=BU r f) rfl (Ac rfl)) ?_;refine Wq Ak ?_;refine Y0<|Ct<|Ys<|Aa<|AWp.block<|AWp.region<|Wm<|Wm<|Wm ?_;refine Wq (FI (m:=M) (k:=k) (f:=BU r f) rfl (ao rfl) (Ac rfl) (Ac rfl) rfl hlt) ?_;refine Wq CA ?_;refine Wq CC ?_;refine Wa<|AWl.nil<|Ag<|Yn<|AWp.region<|Wm ?_;refine Wq AD ?_;refine Wa<|AWl.nil ?_
   refine ALoop.next (M-(k+1)) (by omega) ⟨k+1,by omega,rfl,rfl⟩ ?_
   exact Ah (by exact Yd<|Yd<|Yd<|FrLe.nil) (by exact HpLe.nil)
  .obtain rfl:k=M:=by omega
   refine Aa<|Y1<|Wm<|Wm ?_;refine Wq (BX (n:=k) (f:=BU r f) rfl (Ac rfl)) ?_;refine Wq Aj ?_;refine Y0<|Cf<|AA<|Aq<|Ar<|ABlock.hit<|Yn<|Y1<|Wm<|Wa<|Wa<|Y0<|Am ?_
   exact AN (BA (ResV.tmp rfl rfl) (ResV.tmp rfl rfl) (Be (D.le.refl _) (D.le.refl _)))
def Dl(m:Nat->Int):Ai->Ai
 | []=>[m]
 | y::l=>if 0<=DY y m then (if HA y m=true then y::l else m::y::l) else y::Dl m l
def InsJ(m:Nat->Int)(L:Ai)(k:Nat)(d:Bool)(o:Ai):Prop:=if d=true then o++L.drop k=Dl m L else o++Dl m (L.drop k)=Dl m L
theorem InsJ.keepT{m:Nat->Int}{L o:Ai}{k:Nat}(h:InsJ m L k true o)(hk:k<L.length):InsJ m L (k+1) true (o++[AH L k]):=by
 have h:o++L.drop k=Dl m L:=h
 show o++[AH L k]++L.drop (k+1)=Dl m L
 rw [List.append_assoc,List.singleton_append,<-FU hk,h]
theorem InsJ.keepF{m:Nat->Int}{L o:Ai}{k:Nat}(h:InsJ m L k false o)(hk:k<L.length)(hc:DY (AH L k) m<0):InsJ m L (k+1) false (o++[AH L k]):=by
 have h:o++Dl m (L.drop k)=Dl m L:=h
 rw [FU hk,Dl,if_neg (by omega)] at h
 show o++[AH L k]++Dl m (L.drop (k+1))=Dl m L
 rw [List.append_assoc,List.singleton_append,h]
theorem InsJ.hit{m:Nat->Int}{L o:Ai}{k:Nat}(h:InsJ m L k false o)(hk:k<L.length)(hc:0<=DY (AH L k) m)(he:HA (AH L k) m=true):InsJ m L (k+1) true (o++[AH L k]):=by
 have h:o++Dl m (L.drop k)=Dl m L:=h
 rw [FU hk,Dl,if_pos hc,if_pos he] at h
 show o++[AH L k]++L.drop (k+1)=Dl m L
 rw [List.append_assoc,List.singleton_append,h]
theorem InsJ.put{m:Nat->Int}{L o:Ai}{k:Nat}(h:InsJ m L k false o)(hk:k<L.length)(hc:0<=DY (AH L k) m)(he:HA (AH L k) m=false):InsJ m L (k+1) true (o++[m]++[AH L k]):=by
 have h:o++Dl m (L.drop k)=Dl m L:=h
 rw [FU hk,Dl,if_pos hc,if_neg (by rw [he];exact Bool.false_ne_true)] at h
 show o++[m]++[AH L k]++L.drop (k+1)=Dl m L
 rw [<-h]
 simp
theorem InsJ.doneT{m:Nat->Int}{L o:Ai}(h:InsJ m L L.length true o):o=Dl m L:=by
 have h:o++L.drop L.length=Dl m L:=h
 rwa [List.drop_length,List.append_nil] at h
theorem InsJ.doneF{m:Nat->Int}{L o:Ai}(h:InsJ m L L.length false o):o++[m]=Dl m L:=by
 have h:o++Dl m (L.drop L.length)=Dl m L:=h
 rwa [List.drop_length] at h
theorem FV(m:Nat->Int)(L:Ai)(hL:L.length<=1000000):Abs Tryz.prog 75 [AZ L,Bb (AK m)] (AZ (Dl m L)):=by
 refine Ab Tryz.func75 λs0=>?_
 rw [Tryz.ntmps75]
 apply Y1;refine Bx ?_;refine Wa<|Y0<|Y1 ?_;refine CW (Ac rfl) (Ac rfl) rfl rfl rfl rfl rfl ?_;refine Wa<|Y0<|Y1<|Wa<|Y0<|Aa<|Y1<|Wa<|Y0<|AWp.block ?_
 refine AC (λmz σ=>∃k d o,k<=L.length/\o.length<=k+d.toNat/\InsJ m L k d o/\mz=L.length-k/\σ=⟨[(0,.d (AZ L)),(3,.ptr 0 0),(5,.own 1),(6,.d (ex (.bool d))),(7,.d (ex (.int .i64 (k:Nat))))],[.var 55 ((AK m).map .d),.row 55 8 (o.map AK)]⟩) ?le ⟨0,false,[],by omega,by simp,rfl,rfl,rfl⟩ ?round
 case le=>exact Ah (by exact Yd<|Yp<|FrLe.cons rfl (AVle.own rfl)<|Yd<|Yd<|FrLe.nil) (by exact Yv<|Yr<|HpLe.nil)
 case round=>
  rintro mz _ ⟨k,d,o,hk,ho,hi,rfl,rfl⟩
  by_cases hlt:k<L.length
  .have cc:=NQ (AH L k) m
   cases d
   .have ho:o.length<=k:=ho
    by_cases hc:0<=DY (AH L k) m
    .cases he:HA (AH L k) m
     .refine Aa<|Y1<|Wm<|Wm ?_;refine Wq AR ?_;refine Wq Ak ?_;refine Y0<|Ct<|Ys<|Aa<|AWp.block<|Aa<|Aa ?_
      refine Dr [[],[(15,0)],[(16,1)],[],[],[(18,3),(19,4)],[(20,5)],[],[(21,6),(22,7)],[(23,8)],[(17,2),(24,9)]] [[],[0],[0,1],[0,1,2],[0,1,2],[0,1,2,3,4],[0,1,2,3,4,5],[0,1,2],[0,1,2,3,4,5,6,7],[0,1,2,3,4,5,6,7,8],[0,1,2,3,4,5,6,7,8,9]] ?_
      refine Xq Af ?_;refine Xq BH ?_;refine Xq Af ?_;refine Xg Af ?_;refine Xg Af ?_;refine Xg AE ?_;refine Xg AB ?_;refine Xg At ?_;refine Xg (Ad (cc)) ?_;refine Xg Ak ?_;refine Xq AM ?_;refine ⟨_,rfl,?_⟩
      refine Y0<|Ct<|Y1<|Wa<|Y0<|Aa ?_
      refine Dr [[],[],[(26,0),(27,1)],[(28,2)],[],[(29,3),(30,4)]] [[],[],[0,1],[0,1,2],[],[0,1,2,3,4]] ?_
      refine Xq Af ?_;refine Xq Af ?_;refine Xq AE ?_;refine Xq AB ?_;refine Xq At ?_;(refine Xq (HL (a:=AH L k) (b:=m) (ah rfl) (ah rfl) he) ?_);refine ⟨_,rfl,?_⟩
      refine Y0<|Ct<|AWp.region<|Wm ?_;refine Wq At ?_;refine Wq (BF (ao rfl) (Ac rfl) (Ac rfl) rfl rfl rfl rfl rfl) ?_;(refine Ap ?_);refine Wa<|Y0<|AWp.region<|Wm<|Wm<|Wm ?_;refine Wq AE ?_;refine Wq AB ?_;refine Wq (BF (ao rfl) (Ac rfl) (Ac rfl) rfl rfl rfl rfl rfl) ?_;(refine Ap ?_);refine Wa<|AWl.nil<|Ag<|Yn<|AWp.region<|Wm ?_;refine Wq AD ?_;refine Wa<|AWl.nil ?_
      refine ALoop.next (L.length-(k+1)) (by omega) ⟨k+1,true,o++[m]++[AH L k],by omega,by simp;omega,hi.put hlt hc he,rfl,rfl⟩ ?_
      exact Ah (by exact Yd<|Yp<|FrLe.cons rfl (AVle.own rfl)<|Yd<|Yd<|FrLe.nil) (by apply Yv;refine HpLe.cons (Ca ((congrArg (· ++ [AK (AH L k)]) (CJ AK o m)).trans (CJ AK _ (AH L k)))) ?_;exact HpLe.nil)
     .refine Aa<|Y1<|Wm<|Wm ?_;refine Wq AR ?_;refine Wq Ak ?_;refine Y0<|Ct<|Ys<|Aa<|AWp.block<|Aa<|Aa ?_
      refine Dr [[],[(15,0)],[(16,1)],[],[],[(18,3),(19,4)],[(20,5)],[],[(21,6),(22,7)],[(23,8)],[(17,2),(24,9)]] [[],[0],[0,1],[0,1,2],[0,1,2],[0,1,2,3,4],[0,1,2,3,4,5],[0,1,2],[0,1,2,3,4,5,6,7],[0,1,2,3,4,5,6,7,8],[0,1,2,3,4,5,6,7,8,9]] ?_
      refine Xq Af ?_;refine Xq BH ?_;refine Xq Af ?_;refine Xg Af ?_;refine Xg Af ?_;refine Xg AE ?_;refine Xg AB ?_;refine Xg At ?_;refine Xg (Ad (cc)) ?_;refine Xg Ak ?_;refine Xq AM ?_;refine ⟨_,rfl,?_⟩
      refine Y0<|Ct<|Y1<|Wa<|Y0<|Aa ?_
      refine Dr [[],[],[(26,0),(27,1)],[(28,2)],[],[(29,3),(30,4)]] [[],[],[0,1],[0,1,2],[],[0,1,2,3,4]] ?_
      refine Xq Af ?_;refine Xq Af ?_;refine Xq AE ?_;refine Xq AB ?_;refine Xq At ?_;(refine Xq (HM (a:=AH L k) (b:=m) (ah rfl) (ah rfl) he) ?_);refine ⟨_,rfl,?_⟩
      refine Y0<|Cf<|Ys<|AWp.region<|Wm<|Wm<|Wm ?_;refine Wq AE ?_;refine Wq AB ?_;refine Wq (BF (ao rfl) (Ac rfl) (Ac rfl) rfl rfl rfl rfl rfl) ?_;(refine Ap ?_);refine Wa<|AWl.nil<|Ag<|Yn<|AWp.region<|Wm ?_;refine Wq AD ?_;refine Wa<|AWl.nil ?_
      refine ALoop.next (L.length-(k+1)) (by omega) ⟨k+1,true,o++[AH L k],by omega,by simp;omega,hi.hit hlt hc he,rfl,rfl⟩ ?_
      exact Ah (by exact Yd<|Yp<|FrLe.cons rfl (AVle.own rfl)<|Yd<|Yd<|FrLe.nil) (by apply Yv;refine HpLe.cons (Ca (CJ AK _ (AH L k))) ?_;exact HpLe.nil)
    .refine Aa<|Y1<|Wm<|Wm ?_;refine Wq AR ?_;refine Wq Ak ?_;refine Y0<|Ct<|Ys<|Aa<|AWp.block<|Aa<|Aa ?_
     refine Dr [[],[(15,0)],[(16,1)],[],[],[(18,3),(19,4)],[(20,5)],[],[(21,6),(22,7)],[(23,8)],[(17,2),(24,9)]] [[],[0],[0,1],[0,1,2],[0,1,2],[0,1,2,3,4],[0,1,2,3,4,5],[0,1,2],[0,1,2,3,4,5,6,7],[0,1,2,3,4,5,6,7,8],[0,1,2,3,4,5,6,7,8,9]] ?_
     refine Xq Af ?_;refine Xq BH ?_;refine Xq Af ?_;refine Xg Af ?_;refine Xg Af ?_;refine Xg AE ?_;refine Xg AB ?_;refine Xg At ?_;refine Xg (Ad (cc)) ?_;refine Xg Aj ?_;refine Xq AM ?_;refine ⟨_,rfl,?_⟩
     refine Y0<|Cf<|Ys<|AWp.region<|Wm<|Wm<|Wm ?_;refine Wq AE ?_;refine Wq AB ?_;refine Wq (BF (ao rfl) (Ac rfl) (Ac rfl) rfl rfl rfl rfl rfl) ?_;(refine Ap ?_);refine Wa<|AWl.nil<|Ag<|Yn<|AWp.region<|Wm ?_;refine Wq AD ?_;refine Wa<|AWl.nil ?_
     refine ALoop.next (L.length-(k+1)) (by omega) ⟨k+1,false,o++[AH L k],by omega,by simp;omega,hi.keepF hlt (by omega),rfl,rfl⟩ ?_
     exact Ah (by exact Yd<|Yp<|FrLe.cons rfl (AVle.own rfl)<|Yd<|Yd<|FrLe.nil) (by apply Yv;refine HpLe.cons (Ca (CJ AK _ (AH L k))) ?_;exact HpLe.nil)
   .have ho:o.length<=k+1:=ho
    refine Aa<|Y1<|Wm<|Wm ?_;refine Wq AR ?_;refine Wq Ak ?_;refine Y0<|Ct<|Ys<|Aa<|AWp.block<|Aa<|Aa ?_
    refine Dr [[],[(15,0)],[(16,1)],[],[],[(18,3),(19,4)],[(20,5)],[],[(21,6),(22,7)],[(23,8)],[(17,2),(24,9)]] [[],[0],[0,1],[0,1,2],[0,1,2],[0,1,2,3,4],[0,1,2,3,4,5],[0,1,2],[0,1,2,3,4,5,6,7],[0,1,2,3,4,5,6,7,8],[0,1,2,3,4,5,6,7,8,9]] ?_
    refine Xq Af ?_;refine Xq BH ?_;refine Xq Af ?_;refine Xs ?_;refine Xs ?_;refine Xs ?_;refine Xs ?_;refine Xs ?_;refine Xs ?_;refine Xs ?_;refine Xq Bc ?_;refine ⟨_,rfl,?_⟩
    refine Y0<|Cf<|Ys<|AWp.region<|Wm<|Wm<|Wm ?_;refine Wq AE ?_;refine Wq AB ?_;refine Wq (BF (ao rfl) (Ac rfl) (Ac rfl) rfl rfl rfl rfl rfl) ?_;(refine Ap ?_);refine Wa<|AWl.nil<|Ag<|Yn<|AWp.region<|Wm ?_;refine Wq AD ?_;refine Wa<|AWl.nil ?_
    refine ALoop.next (L.length-(k+1)) (by omega) ⟨k+1,true,o++[AH L k],by omega,by simp;omega,hi.keepT hlt,rfl,rfl⟩ ?_
    exact Ah (by exact Yd<|Yp<|FrLe.cons rfl (AVle.own rfl)<|Yd<|Yd<|FrLe.nil) (by apply Yv;refine HpLe.cons (Ca (CJ AK _ (AH L k))) ?_;exact HpLe.nil)
  .obtain rfl:k=L.length:=by omega
   cases d
   .have ho:o.length<=L.length:=ho
    refine Aa<|Y1<|Wm<|Wm ?_;refine Wq AR ?_;refine Wq Aj ?_;refine Y0<|Cf<|AA<|Aq<|Ar<|ABlock.hit<|Yn<|Aa<|Y1<|Wm ?_;refine Wq BH ?_;refine Y0<|Ct<|AWp.region<|Wm ?_;refine Wq At ?_;refine Wq (BF (ao rfl) (Ac rfl) (Ac rfl) rfl rfl rfl rfl rfl) ?_;(refine Ap ?_);refine Wa<|Y0<|Y1<|Wm<|Wa<|Y0<|Am ?_
    have hd:D.le (slD 55 8 (o.map AK++[AK m])) (AZ (Dl m L)):=BJ (by rw [<-hi.doneF,CJ];rfl)
    exact AN (Rets.of1 (ResV.tmp rfl rfl) (hd))
   .have hd:D.le (slD 55 8 (o.map AK)) (AZ (Dl m L)):=BJ (by rw [hi.doneT]; rfl)
    refine Aa<|Y1<|Wm<|Wm ?_;refine Wq AR ?_;refine Wq Aj ?_;refine Y0<|Cf<|AA<|Aq<|Ar<|ABlock.hit<|Yn<|Aa<|Y1<|Wm ?_;refine Wq BH ?_;refine Y0<|Cf<|Ys<|Y1<|Wm<|Wa<|Y0<|Am ?_
    exact AN (Rets.of1 (ResV.tmp rfl rfl) (hd))
theorem A30(k:Nat)(e:Int)(j:Nat):pwM k e j=if j=k then e else 0:=rfl
theorem KU{m:Nat->Int}:∀{L:Ai} {z:Nat->Int},z∈Dk m L->z=m\/z∈L
 | [],z,h=>.inl (List.mem_singleton.1 h)
 | y::l,z,h=>by
  unfold Dk at h
  split at h
  .split at h
   .exact .inr h
   .rcases List.mem_cons.1 h with h | h
    .exact .inl h
    .exact .inr h
  .rcases List.mem_cons.1 h with h | h
   .exact .inr (h▸List.mem_cons_self)
   .rcases KU h with h | h
    .exact .inl h
    .exact .inr (List.mem_cons_of_mem _ h)
theorem QL{m:Nat->Int}:∀{L:Ai} {z:Nat->Int},z∈L->z∈Dk m L
 | y::l,z,h=>by
  unfold Dk
  split
  .split
   .exact h
   .exact List.mem_cons_of_mem _ h
  .rcases List.mem_cons.1 h with h | h
   .exact h▸List.mem_cons_self
   .exact List.mem_cons_of_mem _ (QL h)
theorem QM{m:Nat->Int}:∀{L:Ai},MemE m (Dk m L)
 | []=>⟨m,List.mem_singleton.2 rfl,Eqv.refl m⟩
 | y::l=>by
  unfold Dk
  split
  .split
   .rename_i h
    exact ⟨y,List.mem_cons_self,Da.1 h⟩
   .exact ⟨m,List.mem_cons_self,Eqv.refl m⟩
  .obtain ⟨a,h1,h2⟩:=QM (m:=m) (L:=l)
   exact ⟨a,List.mem_cons_of_mem _ h1,h2⟩
theorem ZG{m x:Nat->Int}{L:Ai}:MemE x (Dk m L)↔MemE x L\/Eqv m x:=by
 constructor
 .intro ⟨a,h1,h2⟩
  rcases KU h1 with rfl | h
  .exact .inr h2
  .exact .inl ⟨a,h,h2⟩
 .rintro (⟨a,h1,h2⟩ | h)
  .exact ⟨a,QL h1,h2⟩
  .exact QM.congr h
theorem NA{m:Nat->Int}:∀{L:Ai},Rv L->Rv (Dk m L)
 | [],_=>List.pairwise_cons.2 ⟨λz hz=>(by cases hz),List.Pairwise.nil⟩
 | y::l,h=>by
  have h0:=h
  obtain ⟨h1,h2⟩:=List.pairwise_cons.1 h
  unfold Dk
  split
  .rename_i hc
   split
   .exact h
   .rename_i he
    have hc2:0<lx m y:=by
     have h3:lx m y≠0:=λe=>he (Da.2 λj hj=>(EO.1 e j hj).symm)
     rw [<-Ia] at hc
     omega
    refine List.pairwise_cons.2 ⟨λz hz=>?_,h0⟩
    rcases List.mem_cons.1 hz with rfl | hz
    .exact hc2
    .exact LJ hc2 (h1 z hz)
  .rename_i hc
   refine List.pairwise_cons.2 ⟨λz hz=>?_,NA h2⟩
   rcases KU hz with rfl | hz
   .rw [<-Ia] at hc
    rw [DR]
    omega
   .exact h1 z hz
theorem Vi{m:Nat->Int}{L:Ai}:MN m L=true↔∀z∈L,Dv z m->Eqv z m:=by
 unfold MN
 rw [List.all_eq_true]
 refine ⟨λh z hz hd=>?_,λh z hz=>?_⟩
 .have:=h z hz
  rw [okB,MP.2 hd,Bool.not_true,Bool.or_false] at this
  exact Da.1 this
 .unfold okB
  cases hd:GH 8 0 z m
  .simp
  .rw [Da.2 (h z hz (MP.1 hd))]
   rfl
theorem JR(L:Ai):∀k,Rv (Fc L k)
 | 0=>List.Pairwise.nil
 | k+1=>by
  unfold Fc
  split
  .exact NA (JR L k)
  .exact JR L k
theorem LI{L:Ai}{x:Nat->Int}:∀{k},MemE x (Fc L k)↔∃i,i<k/\MN (AH L i) L=true/\Eqv (AH L i) x
 | 0=>by
  constructor
  .intro ⟨_,h,_⟩
   cases h
  .intro ⟨i,h,_⟩
   omega
 | k+1=>by
  unfold Fc
  split
  .rename_i hb
   rw [ZG,LI]
   constructor
   .rintro (⟨i,h1,h2⟩ | h)
    .exact ⟨i,by omega,h2⟩
    .exact ⟨k,by omega,hb,h⟩
   .rintro ⟨i,h1,h2,h3⟩
    by_cases e:i=k
    .subst e
     exact .inr h3
    .exact .inl ⟨i,by omega,h2,h3⟩
  .rename_i hb
   rw [LI]
   constructor
   .rintro ⟨i,h1,h2⟩
    exact ⟨i,by omega,h2⟩
   .rintro ⟨i,h1,h2,h3⟩
    by_cases e:i=k
    .subst e
     exact absurd h2 hb
    .exact ⟨i,by omega,h2,h3⟩
theorem Va(L:Ai):IsMin L (Fc L L.length):=by
 refine ⟨JR L _,λx=>LI.trans ⟨?_,?_⟩⟩
 .rintro ⟨i,h1,h2,h3⟩
  refine ⟨⟨_,Cg h1,h3⟩,λy hy hd=>?_⟩
  exact (Vi.1 h2 y hy (hd.trans h3.symm.dv)).trans h3
 .rintro ⟨⟨a,h1,h2⟩,h3⟩
  obtain ⟨i,hi,rfl⟩:=List.getElem_of_mem h1
  have e:AH L i=L[i]:=by
   rw [AH,List.getD_eq_getElem?_getD,List.getElem?_eq_getElem hi]
   rfl
  refine ⟨i,hi,?_,e▸h2⟩
  rw [e,Vi]
  intro z hz hd
  exact (h3 z hz (hd.trans h2.dv)).trans h2.symm
def Te(m:Nat->Int)(k:Nat):Nat->Int:=HV m k (m k-1)
theorem YB{l:Ai}{n k:Nat}{x:Nat->Int}(h:StdX l n x)(hk:k<n)(hb:inB l (IG x k)=false):StdX l n (IG x k):=by
 refine ⟨λj hj=>?_,hb⟩
 rw [FX]
 split
 .rename_i e
  subst e
  have:=(h.1 j hj).1
  exact ⟨by omega,λh=>by omega⟩
 .exact h.1 j hj
theorem YC{l:Ai}{n k:Nat}{x:Nat->Int}(h:StdX l n x)(hk:k<n)(h0:0<=Te x k k):StdX l n (Te x k):=by
 have e0:Te x k k=x k-1:=if_pos rfl
 refine ⟨λj hj=>?_,?_⟩
 .by_cases e:j=k
  .subst e
   exact ⟨h0,λh=>by omega⟩
  .have:Te x k j=x j:=if_neg e
   rw [this]
   exact h.1 j hj
 .refine Bool.eq_false_iff.2 λhb=>?_
  have:=FE (x:=Te x k) (y:=x) (λj hj=>by
   by_cases e:j=k
   .subst e
    omega
   .have:Te x k j=x j:=if_neg e
    omega) hb
  rw [h.2] at this
  cases this
def Xp(l:Ai):Prop:=l.Pairwise λa b=>lx a b<0
theorem OZ{m:Nat->Int}:∀{L:Ai} {z:Nat->Int},z∈Dl m L->z=m\/z∈L
 | [],z,h=>.inl (List.mem_singleton.1 h)
 | y::l,z,h=>by
  unfold Dl at h
  split at h
  .split at h
   .exact .inr h
   .rcases List.mem_cons.1 h with h | h
    .exact .inl h
    .exact .inr h
  .rcases List.mem_cons.1 h with h | h
   .exact .inr (h▸List.mem_cons_self)
   .rcases OZ h with h | h
    .exact .inl h
    .exact .inr (List.mem_cons_of_mem _ h)
theorem QP{m:Nat->Int}:∀{L:Ai} {z:Nat->Int},z∈L->z∈Dl m L
 | y::l,z,h=>by
  unfold Dl
  split
  .split
   .exact h
   .exact List.mem_cons_of_mem _ h
  .rcases List.mem_cons.1 h with h | h
   .exact h▸List.mem_cons_self
   .exact List.mem_cons_of_mem _ (QP h)
theorem QQ{m:Nat->Int}:∀{L:Ai},MemE m (Dl m L)
 | []=>⟨m,List.mem_singleton.2 rfl,Eqv.refl m⟩
 | y::l=>by
  unfold Dl
  split
  .split
   .rename_i h
    exact ⟨y,List.mem_cons_self,Da.1 h⟩
   .exact ⟨m,List.mem_cons_self,Eqv.refl m⟩
  .obtain ⟨a,h1,h2⟩:=QQ (m:=m) (L:=l)
   exact ⟨a,List.mem_cons_of_mem _ h1,h2⟩
theorem QR{m x:Nat->Int}{L:Ai}:MemE x (Dl m L)↔MemE x L\/Eqv m x:=by
 constructor
 .intro ⟨a,h1,h2⟩
  rcases OZ h1 with rfl | h
  .exact .inr h2
  .exact .inl ⟨a,h,h2⟩
 .rintro (⟨a,h1,h2⟩ | h)
  .exact ⟨a,QP h1,h2⟩
  .exact QQ.congr h
theorem LN{m:Nat->Int}:∀{L:Ai},Xp L->Xp (Dl m L)
 | [],_=>List.pairwise_cons.2 ⟨λz hz=>(by cases hz),List.Pairwise.nil⟩
 | y::l,h=>by
  have h0:=h
  obtain ⟨h1,h2⟩:=List.pairwise_cons.1 h
  unfold Dl
  split
  .rename_i hc
   split
   .exact h
   .rename_i he
    have hc2:0<lx y m:=by
     have h3:lx y m≠0:=λe=>he (Da.2 (EO.1 e))
     rw [<-Ia] at hc
     omega
    refine List.pairwise_cons.2 ⟨λz hz=>?_,h0⟩
    rcases List.mem_cons.1 hz with rfl | hz
    .rw [DR]
     omega
    .have h3:0<lx z y:=by
      have:=h1 z hz
      rw [DR]
      omega
     have h4:=LJ h3 hc2
     rw [DR]
     omega
  .rename_i hc
   refine List.pairwise_cons.2 ⟨λz hz=>?_,LN h2⟩
   rcases OZ hz with rfl | hz
   .rw [<-Ia] at hc
    omega
   .exact h1 z hz
def LayI(l:Ai)(n t:Nat)(L:Ai):Prop:=Xp L/\∀x,MemE x L↔StdX l n x/\BQ 8 0 x=t
def OutI(l:Ai)(n t:Nat)(L:Ai)(i:Nat)(O:Ai):Prop:=Xp O/\∀x,MemE x O↔(StdX l n x/\BQ 8 0 x<t)\/∃j,j<i/\Eqv (AH L j) x
def NxtI(l:Ai)(n:Nat)(L:Ai)(i k:Nat)(M:Ai):Prop:=Xp M/\∀x,MemE x M↔inB l x=false/\∃j q,(j<i/\q<n\/j=i/\q<k)/\Eqv (IG (AH L j) q) x
theorem KW{l:Ai}{x y:Nat->Int}(h:Eqv x y):inB l x=inB l y:=by
 cases hx:inB l x
 .cases hy:inB l y
  .rfl
  .rw [FE h.symm.dv hy] at hx
   cases hx
 .exact (FE h.dv hx).symm
theorem NxtI.zero(l:Ai)(n:Nat)(L:Ai):NxtI l n L 0 0 []:=by
 refine ⟨List.Pairwise.nil,λx=>?_⟩
 constructor
 .intro ⟨_,h,_⟩
  cases h
 .intro ⟨_,j,q,h,_⟩
  omega
theorem NxtI.put{l M L:Ai}{n i k:Nat}(h:NxtI l n L i k M)(hb:inB l (IG (AH L i) k)=false):NxtI l n L i (k+1) (Dl (IG (AH L i) k) M):=by
 refine ⟨LN h.1,λx=>?_⟩
 rw [QR,h.2]
 constructor
 .rintro (⟨h1,j,q,h2,h3⟩ | h1)
  .exact ⟨h1,j,q,by omega,h3⟩
  .exact ⟨by rw [<-KW h1];exact hb,i,k,by omega,h1⟩
 .rintro ⟨h1,j,q,h2,h3⟩
  by_cases e:j=i/\q=k
  .obtain ⟨rfl,rfl⟩:=e
   exact .inr h3
  .exact .inl ⟨h1,j,q,by omega,h3⟩
theorem NxtI.skip{l M L:Ai}{n i k:Nat}(h:NxtI l n L i k M)(hb:inB l (IG (AH L i) k)=true):NxtI l n L i (k+1) M:=by
 refine ⟨h.1,λx=>?_⟩
 rw [h.2]
 constructor
 .rintro ⟨h1,j,q,h2,h3⟩
  exact ⟨h1,j,q,by omega,h3⟩
 .rintro ⟨h1,j,q,h2,h3⟩
  by_cases e:j=i/\q=k
  .obtain ⟨rfl,rfl⟩:=e
   rw [<-KW h3,hb] at h1
   cases h1
  .exact ⟨h1,j,q,by omega,h3⟩
theorem NxtI.turn{l M L:Ai}{n i:Nat}(h:NxtI l n L i n M):NxtI l n L (i+1) 0 M:=by
 refine ⟨h.1,λx=>?_⟩
 rw [h.2]
 constructor
 .rintro ⟨h1,j,q,h2,h3⟩
  exact ⟨h1,j,q,by omega,h3⟩
 .rintro ⟨h1,j,q,h2,h3⟩
  exact ⟨h1,j,q,by omega,h3⟩
theorem OutI.put{l L O:Ai}{n t i:Nat}(h:OutI l n t L i O):OutI l n t L (i+1) (Dl (AH L i) O):=by
 refine ⟨LN h.1,λx=>?_⟩
 rw [QR,h.2]
 constructor
 .rintro ((h1 | ⟨j,h1,h2⟩) | h1)
  .exact .inl h1
  .exact .inr ⟨j,by omega,h2⟩
  .exact .inr ⟨i,by omega,h1⟩
 .rintro (h1 | ⟨j,h1,h2⟩)
  .exact .inl (.inl h1)
  .by_cases e:j=i
   .subst e
    exact .inr h2
   .exact .inl (.inr ⟨j,by omega,h2⟩)
theorem Vb{L:Ai}{x:Nat->Int}:MemE x L↔∃j,j<L.length/\Eqv (AH L j) x:=by
 constructor
 .rintro ⟨a,ha,e⟩
  obtain ⟨j,hj,rfl⟩:=List.getElem_of_mem ha
  refine ⟨j,hj,?_⟩
  rw [AH,List.getD_eq_getElem?_getD,List.getElem?_eq_getElem hj]
  exact e
 .rintro ⟨j,hj,e⟩
  exact ⟨_,Cg hj,e⟩
theorem OutI.next{l L O:Ai}{n t:Nat}(h:OutI l n t L L.length O)(hL:LayI l n t L)(M:Ai):OutI l n (t+1) M 0 O:=by
 refine ⟨h.1,λx=>?_⟩
 rw [h.2,<-Vb,hL.2]
 constructor
 .rintro (⟨h1,h2⟩ | ⟨h1,h2⟩)
  .exact .inl ⟨h1,by omega⟩
  .exact .inl ⟨h1,by omega⟩
 .rintro (⟨h1,h2⟩ | ⟨j,hj,_⟩)
  .by_cases e:BQ 8 0 x=t
   .exact .inr ⟨h1,e⟩
   .exact .inl ⟨h1,by omega⟩
  .omega
theorem ZV{x y:Nat->Int}(h:Eqv x y):BQ 8 0 x=BQ 8 0 y:=HD λj _ hj=>h j (by omega)
theorem ZU{x:Nat->Int}(h:∀j,j<8->0<=x j)(hd:0<BQ 8 0 x):∃k,k<8/\0<x k:=by
 refine Classical.byContradiction λhno=>?_
 have h0:∀j,j<8->x j=0:=λj hj=>by
  have:=h j hj
  have:¬0<x j:=λh=>hno ⟨j,hj,h⟩
  omega
 have e:BQ 8 0 x=BQ 8 0 λ_=>0:=HD λj _ hj=>h0 j (by omega)
 rw [e] at hd
 exact absurd hd (by decide)
theorem NxtI.layer{l L M:Ai}{n t:Nat}(hn:n<=8)(h:NxtI l n L L.length 0 M)(hL:LayI l n t L):LayI l n (t+1) M:=by
 refine ⟨h.1,λx=>?_⟩
 rw [h.2]
 constructor
 .rintro ⟨h1,j,q,h2,h3⟩
  have hj:j<L.length:=by omega
  have hq:q<n:=by omega
  obtain ⟨g1,g2⟩:=(hL.2 _).1 ⟨_,Cg hj,Eqv.refl _⟩
  have hb:inB l (IG (AH L j) q)=false:=by rw [KW h3];exact h1
  refine ⟨(YB g1 hq hb).congr h3,?_⟩
  rw [<-ZV h3,Pi _ _ (λj hj=>(g1.1 j hj).1) (by omega),g2]
 .rintro ⟨h1,h2⟩
  obtain ⟨k,hk,hp⟩:=ZU (λj hj=>(h1.1 j hj).1) (by omega:0<BQ 8 0 x)
  have hkn:k<n:=by
   rcases Nat.lt_or_ge k n with h | h
   .exact h
   .have:=(h1.1 k hk).2 h
    omega
  have e0:Te x k k=x k-1:=if_pos rfl
  have hs:=YC h1 hkn (by omega)
  have hup:IG (Te x k) k=x:=by
   funext j
   rw [FX]
   by_cases e:j=k
   .subst e
    rw [if_pos rfl]
    omega
   .rw [if_neg e]
    exact if_neg e
  have hd:BQ 8 0 x=BQ 8 0 (Te x k)+1:=by
   have:=Pi (Te x k) k (λj hj=>(hs.1 j hj).1) hk
   rwa [hup] at this
  obtain ⟨j,hj,he⟩:=Vb.1 ((hL.2 (Te x k)).2 ⟨hs,by omega⟩)
  refine ⟨h1.2,j,k,.inl ⟨hj,hkn⟩,λq hq=>?_⟩
  rw [<-hup,FX,FX,he k hk,he q hq]
theorem TT{l:Ai}{n:Nat}(h:inB l (λ_=>0)=false):LayI l n 0 [λ_=>0]:=by
 refine ⟨List.pairwise_cons.2 ⟨λz hz=>(by cases hz),List.Pairwise.nil⟩,λx=>?_⟩
 constructor
 .rintro ⟨a,ha,e⟩
  rw [List.mem_singleton.1 ha] at e
  have hs:StdX l n (λ_=>0):=⟨λj _=>⟨Int.le_refl 0,λ_=>rfl⟩,h⟩
  refine ⟨hs.congr e,?_⟩
  rw [<-ZV e]
  decide
 .rintro ⟨h1,h2⟩
  refine ⟨_,List.mem_singleton.2 rfl,λj hj=>?_⟩
  refine Classical.byContradiction λhne=>?_
  have h3:=(h1.1 j hj).1
  have h4:0<x j:=by
   have:(0:Int)≠x j:=hne
   omega
  have h5:BQ 8 0 (pwM j 1)<=BQ 8 0 x:=JW λq _ hq=>by
   rw [A30]
   split
   .rename_i e
    rw [e]
    omega
   .exact (h1.1 q (by omega)).1
  have h6:0<BQ 8 0 (pwM j 1):=by
   have:j=0\/j=1\/j=2\/j=3\/j=4\/j=5\/j=6\/j=7:=by omega
   rcases this with rfl | rfl | rfl | rfl | rfl | rfl | rfl | rfl<;>decide
  omega
theorem OutI.done{l O:Ai}{n t:Nat}(hn:n<=8)(h:OutI l n t [] 0 O)(hL:LayI l n t []):IsStd l n O:=by
 have key:∀(d:Nat) (x:Nat->Int),StdX l n x->BQ 8 0 x=t+d->False:=by
  intro d
  induction d with
  | zero=>
   intro x h1 h2
   obtain ⟨a,ha,_⟩:=(hL.2 x).2 ⟨h1,h2⟩
   cases ha
  | succ d ih=>
   intro x h1 h2
   obtain ⟨k,hk,hp⟩:=ZU (λj hj=>(h1.1 j hj).1) (by omega:0<BQ 8 0 x)
   have hkn:k<n:=by
    rcases Nat.lt_or_ge k n with h | h
    .exact h
    .have:=(h1.1 k hk).2 h
     omega
   have e0:Te x k k=x k-1:=if_pos rfl
   have hs:=YC h1 hkn (by omega)
   have hup:IG (Te x k) k=x:=by
    funext j
    rw [FX]
    by_cases e:j=k
    .subst e
     rw [if_pos rfl]
     omega
    .rw [if_neg e]
     exact if_neg e
   have hd:BQ 8 0 x=BQ 8 0 (Te x k)+1:=by
    have:=Pi (Te x k) k (λj hj=>(hs.1 j hj).1) hk
    rwa [hup] at this
   exact ih _ hs (by omega)
 refine ⟨h.1,λx=>?_⟩
 rw [h.2]
 constructor
 .rintro (h1 | ⟨j,hj,_⟩)
  .exact h1.1
  .omega
 .intro h1
  refine .inl ⟨h1,?_⟩
  rcases Nat.lt_or_ge (BQ 8 0 x) t with h2 | h2
  .exact h2
  .exact (key (BQ 8 0 x-t) x h1 (by omega)).elim
theorem JX{L:Ai}(h:Xp L):L.Pairwise λa b=>¬Eqv a b:=h.imp λ{a b} h e=>by
 rw [EO.2 e] at h
 exact absurd h (by decide)
theorem OutI.std{l L O:Ai}{n t i:Nat}(h:OutI l n t L i O)(hL:LayI l n t L)(hi:i<=L.length):∀x∈O,StdX l n x:=λx hx=>by
 rcases (h.2 x).1 ⟨x,hx,Eqv.refl x⟩ with h1 | ⟨j,hj,e⟩
 .exact h1.1
 .exact ((hL.2 _).1 ⟨_,Cg (by omega),e⟩).1
theorem NxtI.std{l L M:Ai}{n t i k:Nat}(h:NxtI l n L i k M)(hL:LayI l n t L)(hi:i<=L.length)(hk:k<=n)(hik:i<L.length\/k=0):∀x∈M,StdX l n x:=λx hx=>by
 obtain ⟨h1,j,q,h2,e⟩:=(h.2 x).1 ⟨x,hx,Eqv.refl x⟩
 have hj:j<L.length:=by omega
 have g1:=((hL.2 _).1 ⟨_,Cg hj,Eqv.refl _⟩).1
 exact (YB g1 (by omega) (by rw [KW e];exact h1)).congr e
theorem OutI.zero(l:Ai)(n:Nat)(L:Ai):OutI l n 0 L 0 []:=by
 refine ⟨List.Pairwise.nil,λx=>?_⟩
 constructor
 .intro ⟨_,h,_⟩
  cases h
 .rintro (⟨_,h⟩ | ⟨j,h,_⟩)<;>omega
theorem XS{l:Ai}{n:Nat}(h:inB l (λ_=>0)=true):LayI l n 0 []:=by
 refine ⟨List.Pairwise.nil,λx=>?_⟩
 constructor
 .intro ⟨_,h,_⟩
  cases h
 .intro ⟨h1,_⟩
  have:=FE (x:=λ_=>0) (y:=x) (λj hj=>(h1.1 j hj).1) h
  rw [h1.2] at this
  cases this
theorem Xw(l:Ai)(n B:Nat)(dz dg:Int)(hn:n<=8)(hl:l.length<=1000)(hB:∀x,StdX l n x->BQ 8 0 x<B)(hbd:∀x,StdX l n x->∀j,j<8->x j<=1000)(hcnt:∀K:Ai,(∀x∈K,StdX l n x)->(K.Pairwise λa b=>¬Eqv a b)->K.length<=10000)(hdz:dz<=0)(hdg:dg<=1000)(h0:dz=0->inB l (λ_=>0)=false)(h1:dz≠0->inB l (λ_=>0)=true)(cd:Abs Tryz.prog 23 [AZ l,ex (.int .i64 (n:Nat))] (BC [ex (.int .i64 dz),ex (.int .i64 0)]))(cg:Abs Tryz.prog 25 [AZ l,ex (.int .i64 (n:Nat))] (BC [ex (.int .i64 dg),ex (.int .i64 0)])):Abs Tryz.prog 29 [AZ l,ex (.int .i64 (n:Nat))] (BC [Gc (IsStd l n) AZ,ex (.int .i64 0)]):=by
 have hdz2:¬0<dz:=by omega
 have hdg2:¬1000<dg:=by omega
 by_cases hz:dz=0
 .have hlay:=TT (n:=n) (h0 hz)
  refine Ab Tryz.func29 λs0=>?_
  rw [Tryz.ntmps29]
  refine Y1<|Wa<|Wa<|Y0<|Y1<|Wm<|Wm ?_;refine Wq (Ad (cd)) ?_;refine Wm ?_;refine Wq AI ?_;refine Wq AI ?_;refine Wa<|Wa<|Y0<|Aa<|Y1<|Wm ?_;refine Wq Aj ?_;refine Y0<|Cf<|Ys<|Aa<|Y1<|Wm ?_;refine Wq Aj ?_;refine Y0<|Cf<|Ys<|Y1<|Wm<|Wm ?_;refine Wq (Ad (cg)) ?_;refine Wm ?_;refine Wq AI ?_;refine Wq AI ?_;refine Wa<|Wa<|Y0<|Aa<|Y1<|Wm ?_;refine Wq Aj ?_;refine Y0<|Cf<|Ys<|Y1 ?_;refine CW (Ac rfl) (Ac rfl) rfl rfl rfl rfl rfl ?_;refine Wa<|Y0<|Y1 ?_;refine CW (Ac rfl) (Ac rfl) rfl rfl rfl rfl rfl ?_;refine Wa<|Y0<|Aa<|Y1<|Wm ?_;refine Wq Ak ?_;refine Y0<|Ct<|AWp.region<|Wm ?_;(refine CD rfl rfl ?_;(refine FK (Ac rfl) (Ac rfl) rfl rfl ?_;(repeat ((first | refine ⟨_,AW (ao rfl),?_⟩ | refine ⟨_,Po rfl,?_⟩);refine ⟨_,rfl,?_⟩));refine ⟨_,rfl,?_⟩));refine Wq (BF (ao rfl) (Ac rfl) (Ac rfl) rfl rfl rfl rfl rfl) ?_;(refine GE (ao rfl) rfl rfl (Ac rfl) (Ac rfl) rfl rfl (by first | (simp;done) | decide) (by first | (simp;done) | decide) rfl (by first | ((repeat (first | exact PlainHp.nil | refine PlainHp.var ?_ | refine Ck ?_ | refine PlainHp.dead ?_ | refine PlainHp.obj ?_ | refine PlainHp.pin rfl ?_ | refine BY rfl ?_));done) | fail) rfl ?_);refine Wa<|Y0<|Aa<|AWp.block ?_
  refine AC (λmz σ=>∃t L O,OutI l n t L 0 O/\LayI l n t L/\mz=B-t/\σ=⟨[(0,.d (AZ l)),(1,.d (ex (.int .i64 (n:Nat)))),(10,.d (AZ O)),(11,.d (AZ L))],[]⟩) ?le ⟨0,[λ_=>0],[],OutI.zero l n _,hlay,rfl,rfl⟩ ?round
  case le=>exact Ah (by exact Yd<|Yd<|FrLe.cons rfl (Ef rfl (D.le.refl _))<|FrLe.cons rfl (Ef rfl (D.le.refl _))<|FrLe.nil) (by exact HpLe.nil)
  case round=>
   rintro mz _ ⟨t,L,O,hO,hL,rfl,rfl⟩
   have hLs:∀x∈L,StdX l n x:=λx hx=>((hL.2 x).1 ⟨x,hx,Eqv.refl x⟩).1
   have hLl:=hcnt L hLs (JX hL.1)
   by_cases hlen:0<L.length
   .have htB:t<B:=by
     have h1:=(hL.2 (AH L 0)).1 ⟨_,Cg hlen,Eqv.refl _⟩
     have:=hB _ h1.1
     omega
    refine Aa<|Y1<|Wm ?_;refine Wq AR ?_;refine Wq Ak ?_;refine Y0<|Ct<|Ys<|AWp.block<|Y1 ?_;refine CW (Ac rfl) (Ac rfl) rfl rfl rfl rfl rfl ?_;refine Wa<|Y0<|Aa<|Y1<|Wa<|Y0<|AWp.block ?_
    refine AC (λmz σ=>∃i O' M,i<=L.length/\OutI l n t L i O'/\NxtI l n L i 0 M/\mz=L.length-i/\σ=⟨[(0,.d (AZ l)),(1,.d (ex (.int .i64 (n:Nat)))),(10,.d (AZ O')),(11,.d (AZ L)),(12,.d (AZ M)),(13,.d (ex (.int .i64 (i:Nat))))],[]⟩) ?lei ⟨0,O,[],by omega,hO,NxtI.zero l n L,rfl,rfl⟩ ?roundi
    case lei=>exact Ah (by exact Yd<|Yd<|Yd<|Yd<|FrLe.cons rfl (Ef rfl (D.le.refl _))<|Yd<|FrLe.nil) (by exact HpLe.nil)
    case roundi=>
     rintro mz _ ⟨i,O',M,hi,hO',hM,rfl,rfl⟩
     by_cases hlti:i<L.length
     .have hx:=hLs _ (Cg hlti)
      have hOl:=hcnt O' (hO'.std hL hi) (JX hO'.1)
      have co:=FV (AH L i) O' (by omega)
      refine Aa<|Y1<|Wm<|Wm ?_;refine Wq AR ?_;refine Wq Ak ?_;refine Y0<|Ct<|Ys<|Aa<|AWp.block<|Y1<|Wm<|Wm<|Wm ?_;refine Wq AE ?_;refine Wq AB ?_;refine Wq (Ad (co)) ?_;refine Wa<|Y0<|Y1<|Wa<|Y0<|AWp.block ?_
      refine AC (λmz σ=>∃k M',k<=n/\NxtI l n L i k M'/\mz=n-k/\σ=⟨[(0,.d (AZ l)),(1,.d (ex (.int .i64 (n:Nat)))),(10,.d (AZ (Dl (AH L i) O'))),(11,.d (AZ L)),(12,.d (AZ M')),(13,.d (ex (.int .i64 (i:Nat)))),(14,.d (ex (.int .i64 (k:Nat))))],[]⟩) ?lek ⟨0,M,by omega,hM,rfl,rfl⟩ ?roundk
      case lek=>exact Ah (by exact Yd<|Yd<|Yd<|Yd<|Yd<|Yd<|Yd<|FrLe.nil) (by exact HpLe.nil)
      case roundk=>
       rintro mz _ ⟨k,M',hk,hM',rfl,rfl⟩
       have hMl:=hcnt M' (hM'.std hL hi hk (.inl hlti)) (JX hM'.1)
       by_cases hltk:k<n
       .have hk8:k<8:=by omega
        have hxk:0<=L.getD i default k/\L.getD i default k<=1000:=⟨(hx.1 k hk8).1,hbd _ hx k hk8⟩
        have cup:=UL (IG (AH L i) k) l (by omega)
        have cin:=FV (IG (AH L i) k) M' (by omega)
        cases hb:inB l (IG (AH L i) k)
        .rw [hb] at cup
         refine Aa<|Y1<|Wm<|Wm ?_;refine Wq Ak ?_;refine Y0<|Ct<|Ys<|Aa<|AWp.block<|Y1<|Wm<|Wm ?_;refine Wq AE ?_;refine Wq AB ?_;refine Al ?_;refine Sf ?_;refine Y0<|Y1<|Wm ?_;refine Wq BE ?_;refine Wq BI ?_;refine Wq CC ?_;refine Wq BE ?_;(refine DW (ao rfl) (ao rfl) rfl (Ac rfl) (by first | exact CH rfl | exact One.sl | exact Ei) (SetAt.mon (by first | omega | (simp;omega))) rfl ?_);refine Y0<|Y1 ?_;refine Wq At ?_;refine Wm ?_;refine Wq (Ad (cup)) ?_;refine Wq BH ?_;refine Y0<|Ct<|AWp.region<|Wm ?_;refine Wq At ?_;refine Wq (Ad (cin)) ?_;refine Wa<|AWl.nil<|Ag<|Yn<|AWp.region<|Wm ?_;refine Wq AD ?_;refine Wa<|AWl.nil ?_
         refine ALoop.next (n-(k+1)) (by omega) ⟨k+1,_,by omega,hM'.put hb,rfl,rfl⟩ ?_
         exact Ah (by exact Yd<|Yd<|Yd<|Yd<|Yd<|Yd<|Yd<|FrLe.nil) (by exact HpLe.nil)
        .rw [hb] at cup
         refine Aa<|Y1<|Wm<|Wm ?_;refine Wq Ak ?_;refine Y0<|Ct<|Ys<|Aa<|AWp.block<|Y1<|Wm<|Wm ?_;refine Wq AE ?_;refine Wq AB ?_;refine Al ?_;refine Sf ?_;refine Y0<|Y1<|Wm ?_;refine Wq BE ?_;refine Wq BI ?_;refine Wq CC ?_;refine Wq BE ?_;(refine DW (ao rfl) (ao rfl) rfl (Ac rfl) (by first | exact CH rfl | exact One.sl | exact Ei) (SetAt.mon (by first | omega | (simp;omega))) rfl ?_);refine Y0<|Y1 ?_;refine Wq At ?_;refine Wm ?_;refine Wq (Ad (cup)) ?_;refine Wq BH ?_;refine Y0<|Cf<|AWp.skip<|Ag<|Yn<|AWp.region<|Wm ?_;refine Wq AD ?_;refine Wa<|AWl.nil ?_
         refine ALoop.next (n-(k+1)) (by omega) ⟨k+1,_,by omega,hM'.skip hb,rfl,rfl⟩ ?_
         exact Ah (by exact Yd<|Yd<|Yd<|Yd<|Yd<|Yd<|Yd<|FrLe.nil) (by exact HpLe.nil)
       .obtain rfl:k=n:=by omega
        refine Aa<|Y1<|Wm<|Wm ?_;refine Wq Aj ?_;refine Y0<|Cf<|AA<|Aq<|Ar<|ABlock.hit<|Ag<|Yn<|AWp.region<|Wm ?_;refine Wq AD ?_;refine Wa<|AWl.nil ?_
        refine ALoop.next (L.length-(i+1)) (by omega) ⟨i+1,_,_,by omega,hO'.put,hM'.turn,rfl,rfl⟩ ?_
        exact Ah (by exact Yd<|Yd<|Yd<|Yd<|Yd<|Yd<|FrLe.nil) (by exact HpLe.nil)
     .obtain rfl:i=L.length:=by omega
      refine Aa<|Y1<|Wm<|Wm ?_;refine Wq AR ?_;refine Wq Aj ?_;refine Y0<|Cf<|AA<|Aq<|Ar<|ABlock.hit<|Yn<|AWp.region<|Wm<|Wa<|AWl.nil<|Ag ?_
      refine ALoop.next (B-(t+1)) (by omega) ⟨t+1,_,_,hO'.next hL _,hM.layer hn hL,rfl,rfl⟩ ?_
      exact Ah (by exact Yd<|Yd<|Yd<|Yd<|FrLe.nil) (by exact HpLe.nil)
   .have hnil:L=[]:=List.eq_nil_of_length_eq_zero (by omega)
    have hdone:IsStd l n O:=by
     subst hnil
     exact hO.done hn hL
    have hd:D.le (AZ O) (Gc (IsStd l n) AZ):=λs v h=>⟨O,hdone,h⟩
    refine Aa<|Y1<|Wm ?_;refine Wq AR ?_;refine Wq Aj ?_;refine Y0<|Cf<|AA<|Aq<|Ar<|ABlock.hit<|Yn<|Y1<|Wm<|Wa<|Wa<|Y0<|Am ?_
    exact AN (BA (ResV.tmp rfl rfl) (ResV.tmp rfl rfl) (Be (hd) (D.le.refl _)))
 .have hlay:=XS (n:=n) (h1 hz)
  refine Ab Tryz.func29 λs0=>?_
  rw [Tryz.ntmps29]
  refine Y1<|Wa<|Wa<|Y0<|Y1<|Wm<|Wm ?_;refine Wq (Ad (cd)) ?_;refine Wm ?_;refine Wq AI ?_;refine Wq AI ?_;refine Wa<|Wa<|Y0<|Aa<|Y1<|Wm ?_;refine Wq Aj ?_;refine Y0<|Cf<|Ys<|Aa<|Y1<|Wm ?_;refine Wq Aj ?_;refine Y0<|Cf<|Ys<|Y1<|Wm<|Wm ?_;refine Wq (Ad (cg)) ?_;refine Wm ?_;refine Wq AI ?_;refine Wq AI ?_;refine Wa<|Wa<|Y0<|Aa<|Y1<|Wm ?_;refine Wq Aj ?_;refine Y0<|Cf<|Ys<|Y1 ?_;refine CW (Ac rfl) (Ac rfl) rfl rfl rfl rfl rfl ?_;refine Wa<|Y0<|Y1 ?_;refine CW (Ac rfl) (Ac rfl) rfl rfl rfl rfl rfl ?_;refine Wa<|Y0<|Aa<|Y1<|Wm ?_;refine Wq Aj ?_;refine Y0<|Cf<|Ys<|Aa<|AWp.block ?_
  refine AC (λmz σ=>∃t L O,OutI l n t L 0 O/\LayI l n t L/\mz=B-t/\σ=⟨[(0,.d (AZ l)),(1,.d (ex (.int .i64 (n:Nat)))),(10,.d (AZ O)),(11,.d (AZ L))],[]⟩) ?le ⟨0,[],[],OutI.zero l n _,hlay,rfl,rfl⟩ ?round
  case le=>exact Ah (by exact Yd<|Yd<|FrLe.cons rfl (Ef rfl (D.le.refl _))<|FrLe.cons rfl (Ef rfl (D.le.refl _))<|FrLe.nil) (by exact HpLe.nil)
  case round=>
   rintro mz _ ⟨t,L,O,hO,hL,rfl,rfl⟩
   have hLs:∀x∈L,StdX l n x:=λx hx=>((hL.2 x).1 ⟨x,hx,Eqv.refl x⟩).1
   have hLl:=hcnt L hLs (JX hL.1)
   by_cases hlen:0<L.length
   .have htB:t<B:=by
     have h1:=(hL.2 (AH L 0)).1 ⟨_,Cg hlen,Eqv.refl _⟩
     have:=hB _ h1.1
     omega
    refine Aa<|Y1<|Wm ?_;refine Wq AR ?_;refine Wq Ak ?_;refine Y0<|Ct<|Ys<|AWp.block<|Y1 ?_;refine CW (Ac rfl) (Ac rfl) rfl rfl rfl rfl rfl ?_;refine Wa<|Y0<|Aa<|Y1<|Wa<|Y0<|AWp.block ?_
    refine AC (λmz σ=>∃i O' M,i<=L.length/\OutI l n t L i O'/\NxtI l n L i 0 M/\mz=L.length-i/\σ=⟨[(0,.d (AZ l)),(1,.d (ex (.int .i64 (n:Nat)))),(10,.d (AZ O')),(11,.d (AZ L)),(12,.d (AZ M)),(13,.d (ex (.int .i64 (i:Nat))))],[]⟩) ?lei ⟨0,O,[],by omega,hO,NxtI.zero l n L,rfl,rfl⟩ ?roundi
    case lei=>exact Ah (by exact Yd<|Yd<|Yd<|Yd<|FrLe.cons rfl (Ef rfl (D.le.refl _))<|Yd<|FrLe.nil) (by exact HpLe.nil)
    case roundi=>
     rintro mz _ ⟨i,O',M,hi,hO',hM,rfl,rfl⟩
     by_cases hlti:i<L.length
     .have hx:=hLs _ (Cg hlti)
      have hOl:=hcnt O' (hO'.std hL hi) (JX hO'.1)
      have co:=FV (AH L i) O' (by omega)
      refine Aa<|Y1<|Wm<|Wm ?_;refine Wq AR ?_;refine Wq Ak ?_;refine Y0<|Ct<|Ys<|Aa<|AWp.block<|Y1<|Wm<|Wm<|Wm ?_;refine Wq AE ?_;refine Wq AB ?_;refine Wq (Ad (co)) ?_;refine Wa<|Y0<|Y1<|Wa<|Y0<|AWp.block ?_
      refine AC (λmz σ=>∃k M',k<=n/\NxtI l n L i k M'/\mz=n-k/\σ=⟨[(0,.d (AZ l)),(1,.d (ex (.int .i64 (n:Nat)))),(10,.d (AZ (Dl (AH L i) O'))),(11,.d (AZ L)),(12,.d (AZ M')),(13,.d (ex (.int .i64 (i:Nat)))),(14,.d (ex (.int .i64 (k:Nat))))],[]⟩) ?lek ⟨0,M,by omega,hM,rfl,rfl⟩ ?roundk
      case lek=>exact Ah (by exact Yd<|Yd<|Yd<|Yd<|Yd<|Yd<|Yd<|FrLe.nil) (by exact HpLe.nil)
      case roundk=>
       rintro mz _ ⟨k,M',hk,hM',rfl,rfl⟩
       have hMl:=hcnt M' (hM'.std hL hi hk (.inl hlti)) (JX hM'.1)
       by_cases hltk:k<n
       .have hk8:k<8:=by omega
        have hxk:0<=L.getD i default k/\L.getD i default k<=1000:=⟨(hx.1 k hk8).1,hbd _ hx k hk8⟩
        have cup:=UL (IG (AH L i) k) l (by omega)
        have cin:=FV (IG (AH L i) k) M' (by omega)
        cases hb:inB l (IG (AH L i) k)
        .rw [hb] at cup
         refine Aa<|Y1<|Wm<|Wm ?_;refine Wq Ak ?_;refine Y0<|Ct<|Ys<|Aa<|AWp.block<|Y1<|Wm<|Wm ?_;refine Wq AE ?_;refine Wq AB ?_;refine Al ?_;refine Sf ?_;refine Y0<|Y1<|Wm ?_;refine Wq BE ?_;refine Wq BI ?_;refine Wq CC ?_;refine Wq BE ?_;(refine DW (ao rfl) (ao rfl) rfl (Ac rfl) (by first | exact CH rfl | exact One.sl | exact Ei) (SetAt.mon (by first | omega | (simp;omega))) rfl ?_);refine Y0<|Y1 ?_;refine Wq At ?_;refine Wm ?_;refine Wq (Ad (cup)) ?_;refine Wq BH ?_;refine Y0<|Ct<|AWp.region<|Wm ?_;refine Wq At ?_;refine Wq (Ad (cin)) ?_;refine Wa<|AWl.nil<|Ag<|Yn<|AWp.region<|Wm ?_;refine Wq AD ?_;refine Wa<|AWl.nil ?_
         refine ALoop.next (n-(k+1)) (by omega) ⟨k+1,_,by omega,hM'.put hb,rfl,rfl⟩ ?_
         exact Ah (by exact Yd<|Yd<|Yd<|Yd<|Yd<|Yd<|Yd<|FrLe.nil) (by exact HpLe.nil)
        .rw [hb] at cup
         refine Aa<|Y1<|Wm<|Wm ?_;refine Wq Ak ?_;refine Y0<|Ct<|Ys<|Aa<|AWp.block<|Y1<|Wm<|Wm ?_;refine Wq AE ?_;refine Wq AB ?_;refine Al ?_;refine Sf ?_;refine Y0<|Y1<|Wm ?_;refine Wq BE ?_;refine Wq BI ?_;refine Wq CC ?_;refine Wq BE ?_;(refine DW (ao rfl) (ao rfl) rfl (Ac rfl) (by first | exact CH rfl | exact One.sl | exact Ei) (SetAt.mon (by first | omega | (simp;omega))) rfl ?_);refine Y0<|Y1 ?_;refine Wq At ?_;refine Wm ?_;refine Wq (Ad (cup)) ?_;refine Wq BH ?_;refine Y0<|Cf<|AWp.skip<|Ag<|Yn<|AWp.region<|Wm ?_;refine Wq AD ?_;refine Wa<|AWl.nil ?_
         refine ALoop.next (n-(k+1)) (by omega) ⟨k+1,_,by omega,hM'.skip hb,rfl,rfl⟩ ?_
         exact Ah (by exact Yd<|Yd<|Yd<|Yd<|Yd<|Yd<|Yd<|FrLe.nil) (by exact HpLe.nil)
       .obtain rfl:k=n:=by omega
        refine Aa<|Y1<|Wm<|Wm ?_;refine Wq Aj ?_;refine Y0<|Cf<|AA<|Aq<|Ar<|ABlock.hit<|Ag<|Yn<|AWp.region<|Wm ?_;refine Wq AD ?_;refine Wa<|AWl.nil ?_
        refine ALoop.next (L.length-(i+1)) (by omega) ⟨i+1,_,_,by omega,hO'.put,hM'.turn,rfl,rfl⟩ ?_
        exact Ah (by exact Yd<|Yd<|Yd<|Yd<|Yd<|Yd<|FrLe.nil) (by exact HpLe.nil)
     .obtain rfl:i=L.length:=by omega
      refine Aa<|Y1<|Wm<|Wm ?_;refine Wq AR ?_;refine Wq Aj ?_;refine Y0<|Cf<|AA<|Aq<|Ar<|ABlock.hit<|Yn<|AWp.region<|Wm<|Wa<|AWl.nil<|Ag ?_
      refine ALoop.next (B-(t+1)) (by omega) ⟨t+1,_,_,hO'.next hL _,hM.layer hn hL,rfl,rfl⟩ ?_
      exact Ah (by exact Yd<|Yd<|Yd<|Yd<|FrLe.nil) (by exact HpLe.nil)
   .have hnil:L=[]:=List.eq_nil_of_length_eq_zero (by omega)
    have hdone:IsStd l n O:=by
     subst hnil
     exact hO.done hn hL
    have hd:D.le (AZ O) (Gc (IsStd l n) AZ):=λs v h=>⟨O,hdone,h⟩
    refine Aa<|Y1<|Wm ?_;refine Wq AR ?_;refine Wq Aj ?_;refine Y0<|Cf<|AA<|Aq<|Ar<|ABlock.hit<|Yn<|Y1<|Wm<|Wa<|Wa<|Y0<|Am ?_
    exact AN (BA (ResV.tmp rfl rfl) (ResV.tmp rfl rfl) (Be (hd) (D.le.refl _)))
theorem RQ{P:Program}{hp:List Ow}{arg:Operand->AV}{dd:Option Tmp}{ty:TypeId}{ps:String}{af:Array Edge}{gd:Option (Nat×Bool)}{x y:Operand}{t:TypeId}{e n b n' b' m k:Nat}{d:TypeDesc}{z z':Value}{F:Nat->Rat}(hx:Ed hp (arg x)=some (BP m F))(hy:arg y = .d (ex (.int .i64 (k:Nat))))(ht:Tab P t (.slice e) n b z)(he:Tab P e d n' b' z')(hsz:n'=4)(hk:k<=m):Quiet P hp ⟨dd,.slice t x none (some y) none,ty,ps,af,gd⟩ arg (.d (BP k F)):=by
 have:=Mv (dd:=dd) (ty:=ty) (ps:=ps) (af:=af) (gd:=gd) (f:=BV F) (l:=List.range m) hx hy ht he hsz (by rw [List.length_range];exact hk)
 rwa [List.take_range,Nat.min_eq_left hk] at this
theorem GA(F:Nat->Rat)(N:Nat)(hN:N<=100000):Abs Tryz.prog 117 [BP N F] (BP (Dj F N) F):=by
 refine Ab Tryz.func117 λs0=>?_
 rw [Tryz.ntmps117]
 refine Y1<|Wa<|Y0<|Y1<|Wm ?_;refine Wq (Cc (F:=BV F) rfl (Ac rfl)) ?_;refine Wa<|Y0<|Aa<|AWp.block ?_
 refine AC (λmz σ=>∃M,M<=N/\Dj F M=Dj F N/\mz=M/\σ=⟨[(0,.d (BP N F)),(3,.d (ex (.int .i64 (M:Nat))))],[]⟩) ?le ⟨N,Nat.le_refl N,rfl,rfl,rfl⟩ ?round
 case le=>exact Ah (by exact Yd<|Yd<|FrLe.nil) (by exact HpLe.nil)
 case round=>
  rintro mz _ ⟨M,hM,ht,rfl,rfl⟩
  by_cases h0:mz=0
  .have hM0:Dj F N=0:=by rw [<-ht, h0]; rfl
   rw [hM0]
   refine Aa<|Y1<|Wm ?_;refine Wq Aj ?_;refine Wm ?_;refine Ws ?_;refine Ws ?_;refine Ws ?_;refine Ws ?_;refine Ws ?_;refine Ws ?_;refine Ws ?_;refine Wq Bc ?_;refine Y0<|Cf<|AA<|Aq<|Ar<|ABlock.hit<|Yn<|Y1<|Wm<|Wm ?_;refine Wq (RQ (m:=N) (k:=mz) (F:=F) rfl (ao rfl) (Ac rfl) (Ac rfl) rfl hM) ?_;refine Wa<|Y0<|Am ?_
   exact AN (Rets.of1 (ResV.tmp rfl rfl) (BJ (by rw [h0])))
  .have hlt:mz-1<N:=by omega
   have hpos:1<=mz:=by omega
   have e1:mz=(mz-1)+1:=by omega
   have cs:=SQ (F (mz-1))
   by_cases hz:F (mz-1)=0
   .have hsg:(F (mz-1)).num.sign=0:=Dy.2 hz
    have ht2:Dj F (mz-1)=Dj F N:=by rw [<-ht,e1,Dj,Nat.add_sub_cancel,if_pos hz]
    refine Aa<|Y1<|Wm ?_;refine Wq Ak ?_;refine Wm ?_;refine Wg Af ?_;refine Wg Af ?_;refine Wg CM ?_;refine Wg (FH (F:=BV F) (k:=mz-1) rfl (ao rfl) (Ac rfl) (Ac rfl) rfl hlt) ?_;refine Wg AB ?_;refine Wg (Ad (cs)) ?_;refine Wg Ak ?_;refine Wq AM ?_;refine Y0<|Ct<|Ys<|AWp.block<|AWp.region<|Wm ?_;refine Wq CM ?_;refine Wa<|AWl.nil<|Ag ?_
    refine ALoop.next (mz-1) (by omega) ⟨mz-1,by omega,ht2,rfl,rfl⟩ ?_
    exact Ah (by exact Yd<|Yd<|FrLe.nil) (by exact HpLe.nil)
   .have hsg:¬(F (mz-1)).num.sign=0:=λh=>hz (Dy.1 h)
    have ht2:Dj F N=mz:=by
     rw [<-ht,e1,Dj,if_neg hz]
    rw [ht2]
    refine Aa<|Y1<|Wm ?_;refine Wq Ak ?_;refine Wm ?_;refine Wg Af ?_;refine Wg Af ?_;refine Wg CM ?_;refine Wg (FH (F:=BV F) (k:=mz-1) rfl (ao rfl) (Ac rfl) (Ac rfl) rfl hlt) ?_;refine Wg AB ?_;refine Wg (Ad (cs)) ?_;refine Wg Aj ?_;refine Wq AM ?_;refine Y0<|Cf<|AA<|Aq<|Ar<|ABlock.hit<|Yn<|Y1<|Wm<|Wm ?_;refine Wq (RQ (m:=N) (k:=mz) (F:=F) rfl (ao rfl) (Ac rfl) (Ac rfl) rfl hM) ?_;refine Wa<|Y0<|Am ?_
    exact Yf
theorem Ks(c:Rat)(F:Nat->Rat)(N S1 S2:Nat)(hN:N<=1000)(hc:RSz c S1)(hF:∀k,RSz (F k) S2)(hS:S1+S2<=4398046511103):Abs Tryz.prog 67 [Bb (BT c),BP N F] (BP (Dj (λk=>c*F k) N) λk=>c*F k):=by
 have ct:=GA (λk=>c*F k) N (by omega)
 refine Ab Tryz.func67 λs0=>?_
 rw [Tryz.ntmps67]
 apply Y1;refine Bx ?_;refine Wa<|Y0<|Y1 ?_;refine CW (Ac rfl) (Ac rfl) rfl rfl rfl rfl rfl ?_;refine Wa<|Y0<|Aa<|Y1<|Wa<|Y0<|AWp.block ?_
 refine AC (λmz σ=>∃k,k<=N/\mz=N-k/\σ=⟨[(1,.d (BP N F)),(2,.ptr 0 0),(5,.own 1),(6,.d (ex (.int .i64 (k:Nat))))],[.var 71 ((BT c).map .d),.row 71 4 ((List.range k).map (BV λk=>c*F k))]⟩) ?le ⟨0,by omega,rfl,rfl⟩ ?round
 case le=>exact Ah (by exact Yd<|Yp<|FrLe.cons rfl (AVle.own rfl)<|Yd<|FrLe.nil) (by exact Yv<|Yr<|HpLe.nil)
 case round=>
  rintro mz _ ⟨k,hk,rfl,rfl⟩
  by_cases hlt:k<N
  .have cm:=WB c (F k) S1 S2 hc (hF k) hS
   refine Aa<|Y1<|Wm<|Wm ?_;refine Wq (Cc (F:=BV F) rfl (Ac rfl)) ?_;refine Wq Ak ?_;refine Y0<|Ct<|Ys<|Aa<|AWp.block ?_
   refine Dr [[],[],[],[],[(16,2),(17,3)],[(18,4)],[(15,1),(19,5)],[(20,6)]] [[],[],[],[],[2,3],[2,3,4],[1,2,3,4,5],[1,2,3,4,5,6]] ?_
   refine Xq Af ?_;refine Xq At ?_;refine Xq Af ?_;refine Xq Af ?_;(refine Xq (FH (F:=BV F) (k:=k) rfl (ah rfl) (Ac rfl) (Ac rfl) rfl hlt) ?_);refine Xq AB ?_;refine Xq (Ad (cm)) ?_;(refine Xq (BF (ah rfl) (Ac rfl) (Ac rfl) rfl rfl rfl rfl rfl) ?_);refine ⟨_,rfl,?_⟩
   (refine Ap ?_);refine Wa<|AWl.nil<|Ag<|Yn<|AWp.region<|Wm ?_;refine Wq AD ?_;refine Wa<|AWl.nil ?_
   refine ALoop.next (N-(k+1)) (by omega) ⟨k+1,by omega,rfl,rfl⟩ ?_
   exact Ah (by exact Yd<|Yp<|FrLe.cons rfl (AVle.own rfl)<|Yd<|FrLe.nil) (by apply Yv;(refine HpLe.cons (Ca (by rw [List.range_succ,List.map_append];rfl)) ?_);exact HpLe.nil)
  .obtain rfl:k=N:=by omega
   refine Aa<|Y1<|Wm<|Wm ?_;refine Wq (Cc (F:=BV F) rfl (Ac rfl)) ?_;refine Wq Aj ?_;refine Y0<|Cf<|AA<|Aq<|Ar<|ABlock.hit<|Yn<|Y1<|Wm ?_;refine Wq (Ad (ct)) ?_;refine Wa<|Y0<|Am ?_
   exact Yf
theorem RD(c:Rat):Abs Tryz.prog 65 [Bb (BT c)] (BP (Dj (λ_=>c) 1) λ_=>c):=by
 have ct:=GA (λ_=>c) 1 (by omega)
 refine Ab Tryz.func65 λs0=>?_
 rw [Tryz.ntmps65]
 apply Y1;refine Bx ?_;refine Wa<|Y0<|Y1 ?_;refine Wq At ?_;refine Wq (BF (ao rfl) (Ac rfl) (Ac rfl) rfl rfl rfl rfl rfl) ?_;refine Wq (Ad (ct)) ?_;refine Wa<|Y0<|Am ?_
 exact Yf
theorem RE(F:Nat->Rat)(N k:Nat)(hN:N<=100000)(hk:k<=100000):Abs Tryz.prog 121 [BP N F,ex (.int .i64 (k:Nat))] (Bb (BT (Du F N k))):=by
 by_cases h:k<N
 .have e:Du F N k=F k:=if_pos h
  rw [e]
  refine Ab Tryz.func121 λs0=>?_
  rw [Tryz.ntmps121]
  apply Y1;refine Al ?_;refine Y0<|Aa<|Y1<|Wm<|Wm ?_;refine Wq (Cc (F:=BV F) rfl (Ac rfl)) ?_;refine Wq Ak ?_;refine Y0<|Ct<|Y1<|Wm<|Wm ?_;refine Wq (FH (F:=BV F) (k:=k) rfl (ao rfl) (Ac rfl) (Ac rfl) rfl h) ?_;refine Wq AB ?_;refine Sf ?_;refine Y0<|Am<|AP ?_
  exact AN (Rets.of1 (ResV.cell rfl rfl (Ac rfl) rfl rfl rfl) (D.le.refl _))
 .have e:Du F N k=((0:Int):Rat):=if_neg h
  rw [e]
  refine Ab Tryz.func121 λs0=>?_
  rw [Tryz.ntmps121]
  apply Y1;refine Al ?_;refine Y0<|Aa<|Y1<|Wm<|Wm ?_;refine Wq (Cc (F:=BV F) rfl (Ac rfl)) ?_;refine Wq Aj ?_;refine Y0<|Cf<|Ys<|Y1 ?_;refine Wq (Ad (Ew 0 (by omega) (by omega))) ?_;refine Sf ?_;refine Y0<|Am ?_
  exact AN (Rets.of1 (ResV.cell rfl rfl (Ac rfl) rfl rfl rfl) (D.le.refl _))
def aU(F G:Nat->Rat)(N K k:Nat):Rat:=Du F N k+Du G K k
theorem NR(F G:Nat->Rat)(N K S1 S2:Nat)(hN:N<=1000)(hK:K<=1000)(hF:∀k,RSz (F k) S1)(hG:∀k,RSz (G k) S2)(h1:1<=S1)(h2:1<=S2)(hS:S1+S2+1<=4398046511103):Abs Tryz.prog 69 [BP N F,BP K G] (BP (Dj (aU F G N K) (max N K)) (aU F G N K)):=by
 have ct:=GA (aU F G N K) (max N K) (by omega)
 have hmx:max ((N:Nat):Int) ((K:Nat):Int)=((max N K:Nat):Int):=by omega
 refine Ab Tryz.func69 λs0=>?_
 rw [Tryz.ntmps69]
 refine Y1<|Wa<|Y0<|Y1 ?_;refine CW (Ac rfl) (Ac rfl) rfl rfl rfl rfl rfl ?_;refine Wa<|Y0<|Aa<|Y1<|Wa<|Y0<|AWp.block ?_
 refine AC (λmz σ=>∃k,k<=max N K/\mz=max N K-k/\σ=⟨[(0,.d (BP N F)),(1,.d (BP K G)),(5,.own 0),(6,.d (ex (.int .i64 (k:Nat))))],[.row 71 4 ((List.range k).map (BV (aU F G N K)))]⟩) ?le ⟨0,by omega,rfl,rfl⟩ ?round
 case le=>exact Ah (by exact Yd<|Yd<|FrLe.cons rfl (AVle.own rfl)<|Yd<|FrLe.nil) (by exact Yr<|HpLe.nil)
 case round=>
  rintro mz _ ⟨k,hk,rfl,rfl⟩
  by_cases hlt:k<max N K
  .have c1:=RE F N k (by omega) (by omega)
   have c2:=RE G K k (by omega) (by omega)
   have c3:=WC (Du F N k) (Du G K k) S1 S2 (Pc hF h1 k) (Pc hG h2 k) hS
   have hk2:((k:Nat):Int)<max ((N:Nat):Int) ((K:Nat):Int):=by omega
   refine Aa<|Y1<|Wm<|Wm ?_;refine Wq (Cc (F:=BV F) rfl (Ac rfl)) ?_;refine Wm ?_;refine Wq (Cc (F:=BV G) rfl (Ac rfl)) ?_;refine Wq IA ?_;refine Wq Ak ?_;refine Y0<|Ct<|Ys<|Aa<|AWp.block<|AWp.region<|Wm<|Wm<|Wm ?_;refine Wq (Ad (c1)) ?_;refine Wm<|Wm ?_;refine Wq (Ad (c2)) ?_;refine Wq (Ad (c3)) ?_;refine Wq (BF (ao rfl) (Ac rfl) (Ac rfl) rfl rfl rfl rfl rfl) ?_;(refine Ap ?_);refine Wa<|AWl.nil<|Ag<|Yn<|AWp.region<|Wm ?_;refine Wq AD ?_;refine Wa<|AWl.nil ?_
   refine ALoop.next (max N K-(k+1)) (by omega) ⟨k+1,by omega,rfl,rfl⟩ ?_
   exact Ah (by exact Yd<|Yd<|FrLe.cons rfl (AVle.own rfl)<|Yd<|FrLe.nil) (by (refine HpLe.cons (Ca (by rw [List.range_succ,List.map_append];rfl)) ?_);exact HpLe.nil)
  .obtain rfl:k=max N K:=by omega
   have hk2:¬((max N K:Nat):Int)<max ((N:Nat):Int) ((K:Nat):Int):=by omega
   refine Aa<|Y1<|Wm<|Wm ?_;refine Wq (Cc (F:=BV F) rfl (Ac rfl)) ?_;refine Wm ?_;refine Wq (Cc (F:=BV G) rfl (Ac rfl)) ?_;refine Wq IA ?_;refine Wq Aj ?_;refine Y0<|Cf<|AA<|Aq<|Ar<|ABlock.hit<|Yn<|Y1<|Wm ?_;refine Wq (Ad (ct)) ?_;refine Wa<|Y0<|Am ?_
   exact Yf
theorem A1i(F:Nat->Rat)(N:Nat):BT ((0:Int):Rat)::(List.range N).map (BV F)=(List.range (N+1)).map (BV (EN F)):=by
 rw [List.range_succ_eq_map,List.map_cons,List.map_map]
 congr 1
theorem XB(n1 n2 d:Nat)(f1 f2:Nat->Int)(h1:0<n1)(hn1:n1<=10000)(hn2:n2<=10000)(hd0:d<=512)(b1:∀i,-100000<=f1 i/\f1 i<=100000)(b2:∀i,-100000<=f2 i/\f2 i<=100000)(z1:∀i,n1<=i->f1 i=0)(z2:∀i,n2<=i->f2 i=0):Abs Tryz.prog 98 [nD n1 f1,ex (.int .i64 (d:Nat)),nD n2 f2] (nD (FM (λt=>f1 t-Fg d f2 t) (mX n1 d n2)) (λt=>f1 t-Fg d f2 t)):=by
 have hml:((List.range n1).map λi=>[ex (.int .i64 (f1 i))]).length=n1:=by simp
 have h8:∀k,k<((List.range n1).map λi=>[ex (.int .i64 (f1 i))]).length->(((List.range n1).map λi=>[ex (.int .i64 (f1 i))]).getD k []).length=1:=λk hk=>by
  rw [List.getD_eq_getElem?_getD,List.getElem?_eq_getElem hk,Option.getD_some,List.getElem_map]
  rfl
 have hfl:((List.range n1).map λi=>[ex (.int .i64 (f1 i))]).flatten=nC f1 n1:=LT _ _
 have hmxN:=Ve (n1:=n1) (d:=d) (i:=n2) hn1 hd0 hn2
 have ct:=NS (λt=>f1 t-Fg d f2 t) (mX n1 d n2) (by omega)
 refine Ab Tryz.func98 λs0=>?_
 rw [Tryz.ntmps98]
 apply Aa
 apply AWp.region
 refine CD rfl rfl ?_
 refine ⟨_,HQ (ao rfl),?_⟩
 apply AWl.nil
 apply Yn
 apply Aa
 apply AWp.region
 refine CW (Ac rfl) (Ac rfl) rfl rfl rfl rfl rfl ?_
 refine Dc (Uk 0 rfl rfl) ?_
 refine CD rfl rfl ?_
 refine ⟨_,JA (ao rfl),?_⟩
 refine PM (r2:=(List.range n1).map λi=>[ex (.int .i64 (f1 i))]) (ao rfl) rfl h8 (by omega) rfl (Ac rfl) (Ac rfl) rfl rfl (by rw [hml];simp;omega) (by rw [hml];simp;omega) rfl (by first | ((repeat (first | exact PlainHp.nil | refine PlainHp.var ?_ | refine Ck ?_ | refine PlainHp.dead ?_ | refine PlainHp.obj ?_ | refine PlainHp.pin rfl ?_ | refine BY rfl ?_));done) | fail) rfl ?_
 refine VY 0 rfl (by rw [List.nil_append];omega) (λg c=>rfl) (by first | ((repeat (first | exact PlainHp.nil | refine PlainHp.var ?_ | refine Ck ?_ | refine PlainHp.dead ?_ | refine PlainHp.obj ?_ | refine PlainHp.pin rfl ?_ | refine BY rfl ?_));done) | fail) (λg k=>rfl) λg c hc1 hc2=>?_
 rw [List.nil_append,hml] at hc1
 rw [List.nil_append,hml,hfl]
 refine Wa<|Y0<|Aa<|Y1<|Wa<|Y0<|AWp.block ?_
 refine AC (λmz σ=>∃i,i<=n2/\mz=n2-i/\∃g2 c2,mX n1 d i<=c2/\c2<=9223372036854775807/\σ=⟨[(1,.d (ex (.int .i64 (d:Nat)))),(2,.d (nD n2 f2)),(7,.d (sX g2 (mX n1 d i) c2)),(8,.d (ex (.int .i64 (i:Nat))))],[.obj (BN [⟨g2,3,nC (kX f1 f2 d i) (mX n1 d i)⟩] [c2*1])]⟩) ?le ⟨0,by omega,rfl,g,c,hc1,hc2,rfl⟩ ?round
 case le=>exact Ah (by exact Yd<|Yd<|Yd<|Yd<|FrLe.nil) (by (refine HpLe.cons (OwLe.obj (by rw [Vm];rfl)) ?_);exact HpLe.nil)
 case round=>
  rintro mz _ ⟨i,hi,rfl,g2,c2,hc3,hc4,rfl⟩
  by_cases hlt:i<n2
  .refine Aa<|Y1<|Wm<|Wm ?_;refine Wq (BX (n:=n2) (f:=f2) rfl (Ac rfl)) ?_;refine Wq Ak ?_;refine Y0<|Ct<|Ys<|Aa<|AWp.block<|Aa<|AWp.block ?_
   have hmx:=Ve (n1:=n1) (d:=d) (i:=i) hn1 hd0 (by omega)
   refine AC (λmz σ=>∃m,mX n1 d i<=m/\m<=max (mX n1 d i) (i+d+1)/\mz=100000-m/\∃g2 c2,m<=c2/\c2<=9223372036854775807/\σ=⟨[(1,.d (ex (.int .i64 (d:Nat)))),(2,.d (nD n2 f2)),(7,.d (sX g2 m c2)),(8,.d (ex (.int .i64 (i:Nat))))],[.obj (BN [⟨g2,3,nC (kX f1 f2 d i) m⟩] [c2*1])]⟩) ?le2 ⟨mX n1 d i,by omega,by omega,rfl,g2,c2,hc3,hc4,rfl⟩ ?round2
   case le2=>exact Ah (by exact Yd<|Yd<|Yd<|Yd<|FrLe.nil) (by exact HpLe.cons (OwLe.obj rfl)<|HpLe.nil)
   case round2=>
    rintro mz _ ⟨m,hm1,hm2,rfl,g2,c2,hc3,hc4,rfl⟩
    by_cases hle:m<=i+d
    .refine Aa<|Aa<|AWp.region<|Wm ?_; refine Wq (Dq (ao rfl) (Ac rfl)) ?_; refine Wm<|Wm ?_; refine Wq CC ?_; refine Wq Ak ?_; refine AWl.nil<|Yn<|Ct<|AWp.skip<|Yn<|AWp.block<|AWp.region<|Wm ?_; (refine CD rfl rfl ?_; (refine Cl (Ac rfl) (Ac rfl) rfl rfl rfl rfl rfl ?_; (repeat ((first | refine ⟨_, AW (ao rfl), ?_⟩ | refine ⟨_, Po rfl, ?_⟩); refine ⟨_, rfl, ?_⟩)); refine ⟨_, rfl, ?_⟩))
     have hsn:=UX (f:=kX f1 f2 d i) (n:=m) (ZB z1 hm1)
     refine PL (sz:=1) (r:=[ex (.int .i64 0)]) 0 0 (ao rfl) rfl rfl rfl (by rw [Hd,Nat.mul_one]) (by decide) hc3 hc4 rfl rfl (Ac rfl) (Ac rfl) rfl rfl (by omega) (by omega) (λg c=>rfl) λg3 c3 hd1 hd2=>?_
     refine Wa<|AWl.nil<|Ag ?_
     refine ALoop.next (100000-(m+1)) (by omega) ⟨m+1,by omega,by omega,rfl,g3,c3,hd1,hd2,rfl⟩ ?_
     exact Ah (by exact Yd<|Yd<|Yd<|Yd<|FrLe.nil) (by (refine HpLe.cons (OwLe.obj (by show BN [⟨g3,_,nC (kX f1 f2 d i) m++[ex (.int .i64 0)]⟩] _=_;rw [hsn];rfl)) ?_);exact HpLe.nil)
    .have hm:m=mX n1 d (i+1):=by rw [Vd]; omega
     refine Aa<|Y1<|Wm ?_;refine Wq (Dq (ao rfl) (Ac rfl)) ?_;refine Wm<|Wm ?_;refine Wq CC ?_;refine Wq Aj ?_;refine Y0<|Cf<|AA<|Aq<|Ar<|ABlock.hit<|Yn ?_
     have hlt2:i+d<m:=by omega
     have hk0:kX f1 f2 d i (i+d)=f1 (i+d):=by rw [kX,if_neg (by omega),Int.sub_zero]
     have hb1:=b1 (i+d)
     have hb2:=b2 i
     rw [<-hk0] at hb1
     have hst:SetAt (nC (kX f1 f2 d i) m) ((i+d)*1) [ex (.int .i64 (kX f1 f2 d i (i+d)-f2 i))] (nC (kX f1 f2 d (i+1)) m):=Vn f1 f2 d i▸OP hlt2
     have hgd:(List.range n2).getD i default=i:=by rw [List.getD_eq_getElem?_getD,List.getElem?_range hlt];rfl
     have hb3:=b2 ((List.range n2).getD i default)
     rw [<-show f2 ((List.range n2).getD i default)=f2 i by rw [hgd]] at hst
     skip
     refine Dr [[],[],[],[(28,1),(29,2)],[(27,0),(30,3)],[(31,4)],[],[],[(33,6),(34,7)],[(35,8)],[(32,5),(36,9)],[(27,0),(30,3)]] [[],[],[],[1,2],[0,1,2,3],[0,1,2,3,4],[],[],[6,7],[6,7,8],[0,1,2,3,4,5,6,7,8,9],[0,1,2,3,4,5,6,7,8,9,10]] ?_
     refine Xq Af ?_;refine Xq Af ?_;refine Xq Af ?_;refine Xq CC ?_;refine Xq (CN (k:=i+d) (ah rfl) (ah rfl) (Ac rfl) (Ac rfl) hlt2) ?_;refine Xq (HN (e:=⟨g2,3,nC (kX f1 f2 d i) m⟩) 0 0 (ah rfl) rfl rfl (Ac rfl) rfl (Fj hlt2)) ?_;refine Xq Af ?_;refine Xq Af ?_;refine Xq AE ?_;refine Xq CA ?_;refine Xq DV ?_;refine Xq (CN (k:=i+d) (ah rfl) (ah rfl) (Ac rfl) (Ac rfl) hlt2) ?_;refine ⟨_,rfl,?_⟩
     refine MC (e:=⟨g2,3,nC (kX f1 f2 d i) m⟩) 0 0 (ao rfl) (ao rfl) rfl rfl (Ac rfl) (CH rfl) hst rfl ?_;refine AWl.nil<|Ag<|Yn<|AWp.region<|Wm ?_;refine Wq AD ?_;refine Wa<|AWl.nil ?_
     subst hm
     refine ALoop.next (n2-(i+1)) (by omega) ⟨i+1,by omega,rfl,g2,c2,hc3,hc4,rfl⟩ ?_
     exact Ah (by exact Yd<|Yd<|Yd<|Yd<|FrLe.nil) (by exact HpLe.cons (OwLe.obj rfl)<|HpLe.nil)
  .obtain rfl:n2=i:=by omega
   refine Aa<|Y1<|Wm<|Wm ?_;refine Wq (BX (n:=n2) (f:=f2) rfl (Ac rfl)) ?_;refine Wq Aj ?_;refine Y0<|Cf<|AA<|Aq<|Ar<|ABlock.hit<|Yn<|Y1<|Wm ?_
   rw [ZC (f1:=f1) (d:=d) z2]
   refine Dc (Fu (IF 0 rfl rfl) (EM (R:=nD (mX n1 d n2) (λt=>f1 t-Fg d f2 t)) 0 39 rfl rfl rfl rfl λs' hs v hv=>Zg (hs _ List.mem_cons_self) (Nat.le_refl _) hc3 hc4 hv)) ?_
   refine Wq (Ad (ct)) ?_;refine Wa<|Y0<|Am ?_
   exact Yf
theorem Fx{F:Nat->Rat}:∀{n t:Nat},Dj F n<=t->t<n->F t=0
 | 0,t,_,h=>absurd h (Nat.not_lt_zero t)
 | n+1,t,h,h2=>by
  rw [Dj] at h
  split at h
  .rename_i h3
   by_cases e:t=n
   .rw [e];exact h3
   .exact Fx h (by omega)
  .omega
theorem Oq{F:Nat->Rat}:∀{n:Nat},0<Dj F n->F (Dj F n-1)≠0
 | 0,h=>absurd h (Nat.lt_irrefl 0)
 | n+1,h=>by
  rw [Dj] at h ⊢
  split at h
  .rename_i h3
   rw [if_pos h3]
   exact Oq h
  .rename_i h3
   rw [if_neg h3]
   exact h3
theorem IL{F X:Nat->Rat}{n B:Nat}(h:∀t,Du F n t=X t)(hB:∀t,B<=t->X t=0):Dj F n=Dj X B:=by
 have h0:∀t,Dj F n<=t->X t=0:=λt ht=>by
  rw [<-h t]
  unfold Du
  split
  .exact Fx ht (by assumption)
  .rfl
 have h1:∀t,Dj X B<=t->X t=0:=λt ht=>by
  rcases Nat.lt_or_ge t B with h2 | h2
  .exact Fx ht h2
  .exact hB t h2
 have hl:=Ep F n
 rcases Nat.lt_trichotomy (Dj F n) (Dj X B) with h2 | h2 | h2
 .exact absurd (h0 (Dj X B-1) (by omega)) (Oq (by omega))
 .exact h2
 .have h3:=h1 (Dj F n-1) (by omega)
  rw [<-h (Dj F n-1),Du,if_pos (by omega)] at h3
  exact absurd h3 (Oq (by omega))
theorem MV{n:Nat}{F G:Nat->Rat}(h:∀t,t<n->F t=G t):BP n F=BP n G:=by
 unfold BP rD
 congr 1
 refine List.map_congr_left λt ht=>?_
 unfold BV
 rw [h t (List.mem_range.1 ht)]
theorem GM{F X:Nat->Rat}{n B:Nat}(h:∀t,Du F n t=X t)(hB:∀t,B<=t->X t=0):BP (Dj F n) F=BP (Dj X B) X:=by
 rw [IL h hB]
 refine MV λt ht=>?_
 rw [<-h t,Du,if_pos]
 rw [<-IL h hB] at ht
 have:=Ep F n
 omega
theorem LZ{X:Nat->Rat}{n B:Nat}(hB:∀t,B<=t->X t=0)(hn:Dj X B<=n)(t:Nat):Du X n t=X t:=by
 unfold Du
 split
 .rfl
 .rcases Nat.lt_or_ge t B with h2 | h2
  .exact (Fx (by omega) h2).symm
  .exact (hB t h2).symm
theorem UN{X:Nat->Rat}{B:Nat}(hB:∀t,B<=t->X t=0)(t:Nat)(ht:B+1<=t):EN X t=0:=by
 rw [EN,if_neg (by omega)]
 exact hB _ (by omega)
theorem YR{X:Nat->Rat}{B:Nat}(hB:∀t,B<=t->X t=0)(t:Nat):Du (EN X) (Dj X B+1) t=EN X t:=by
 unfold Du
 split
 .rfl
 .rw [EN, if_neg (by omega)]
  rcases Nat.lt_or_ge (t-1) B with h2 | h2
  .exact (Fx (by omega) h2).symm
  .exact (hB _ h2).symm
theorem RC(F:Nat->Rat)(N:Nat)(hN:N<=1000):Abs Tryz.prog 120 [BP N F] (BP (Dj (EN F) (N+1)) (EN F)):=by
 have ct:=GA (EN F) (N+1) (by omega)
 refine Ab Tryz.func120 λs0=>?_
 rw [Tryz.ntmps120]
 apply Aa
 apply AWp.region
 refine CD rfl rfl ?_
 refine ⟨_,HQ (ao rfl),?_⟩
 apply AWl.nil
 apply Yn
 refine GF 2 71 4 rfl (by decide) (by decide) rfl rfl ?_
 apply Y1;refine Wq (Ad (Ew 0 (by omega) (by omega))) ?_;(refine A0P (len:=1) (parts:=[(0,.tmp 4)]) (r:=[(0,BT ((0:Int):Rat))]) (ds:=BT ((0:Int):Rat)) 0 (Ac rfl) (Ac rfl) (by decide) (by decide) rfl (by decide) rfl (Oa rfl PartsA.nil) rfl rfl rfl rfl rfl (by repeat (first | exact DownR.nil | apply DownR.var | apply DownR.row | apply DownR.obj | apply DownR.dead | (apply DownR.pin;rfl) | (apply TX;rfl))) rfl ?_);refine Wa<|Y0<|Y1<|Wm<|Wm ?_;(refine GE (ao rfl) rfl rfl (Ac rfl) (Ac rfl) rfl rfl (by simp [Bo];omega) (by simp [Bo];omega) rfl (by first | ((repeat (first | exact PlainHp.nil | refine PlainHp.var ?_ | refine Ck ?_ | refine PlainHp.dead ?_ | refine PlainHp.obj ?_ | refine PlainHp.pin rfl ?_ | refine BY rfl ?_));done) | fail) rfl ?_)
 have e:Eh 4 1 (BT ((0:Int):Rat))++(List.range N).map (BV F)=(List.range (N+1)).map (BV (EN F)):=A1i F N
 rw [e]
 refine Wq (Ad (ct)) ?_;refine Wa<|Y0<|Am ?_
 exact Yf
theorem A2O(F G:Nat->Rat)(N K t:Nat):Du (aU F G N K) (max N K) t=Du F N t+Du G K t:=by
 have h0:∀(H:Nat->Rat) n,¬t<n->Du H n t=q0:=λH n h=>if_neg h
 by_cases h:t<max N K
 .exact if_pos h
 .rw [h0 _ _ h, h0 F N (by omega), h0 G K (by omega)]
  exact (Rat.add_zero _).symm
def Vf(X G:Nat->Rat)(t:Nat):Rat:=X t*G 0+EN X t*G 1
def KX(X G:Nat->Rat)(k:Nat):Nat->Rat:=Vf (λt=>X (t+k)) G
theorem ZM(X G:Nat->Rat):KX X G 0=Vf X G:=rfl
theorem Vu{X:Nat->Rat}(G:Nat->Rat){B:Nat}(hB:∀t,B<=t->X t=0)(k t:Nat)(ht:B+1<=t):KX X G k t=0:=by
 have h1:X (t+k)=0:=hB _ (by omega)
 have h2:EN (λt=>X (t+k)) t=0:=by
  rw [EN,if_neg (by omega)]
  exact hB _ (by omega)
 show X (t+k)*G 0+EN (λt=>X (t+k)) t*G 1=0
 rw [h1,h2,Rat.zero_mul,Rat.zero_mul,Rat.add_zero]
theorem A1E{X:Nat->Rat}(G:Nat->Rat){k:Nat}(h:∀t,k<=t->X t=0)(t:Nat):KX X G k t=0:=by
 have h1:X (t+k)=0:=h _ (by omega)
 have h2:EN (λt=>X (t+k)) t=0:=by
  unfold EN
  split
  .rfl
  .exact h _ (by omega)
 show X (t+k)*G 0+EN (λt=>X (t+k)) t*G 1=0
 rw [h1,h2,Rat.zero_mul,Rat.zero_mul,Rat.add_zero]
theorem ZN(X G:Nat->Rat)(k t:Nat):KX X G k t=EN (KX X G (k+1)) t+if t<2 then X k*G t else 0:=by
 have e2:∀t,EN (KX X G (k+1)) (t+1)=KX X G (k+1) t:=λt=>by rw [EN,if_neg (by omega),Nat.add_sub_cancel]
 have z0:EN (KX X G (k+1)) 0=0:=rfl
 match t with
 | 0=>
  rw [z0,if_pos (by omega),Rat.zero_add]
  show X (0+k)*G 0+0*G 1=_
  rw [Nat.zero_add,Rat.zero_mul,Rat.add_zero]
 | 1=>
  rw [e2,if_pos (by omega)]
  show X (1+k)*G 0+X (0+k)*G 1=X (0+(k+1))*G 0+0*G 1+X k*G 1
  rw [Nat.zero_add,Rat.zero_mul,Rat.add_zero,show 1+k=0+(k+1) by omega]
 | t+2=>
  rw [e2,if_neg (by omega),Rat.add_zero]
  show X (t+2+k)*G 0+X (t+1+k)*G 1=X (t+1+(k+1))*G 0+X (t+(k+1))*G 1
  rw [show t+2+k=t+1+(k+1) by omega,show t+1+k=t+(k+1) by omega]
theorem YQ{X:Nat->Rat}{S:Nat}(h:∀t,RSz (X t) S)(hS:1<=S)(t:Nat):RSz (EN X t) S:=by
 unfold EN
 split
 .exact (MK (x:=0) (by omega) (by omega)).mono hS
 .exact h _
theorem SW{X G:Nat->Rat}{S1 S2:Nat}(h:∀t,RSz (X t) S1)(h':∀t,RSz (G t) S2)(hS:1<=S1)(t:Nat):RSz (Vf X G t) (S1+S2+(S1+S2)+1):=((h t).mul (h' 0)).add ((YQ h hS t).mul (h' 1))
theorem Tw(X G:Nat->Rat)(B S1 S2:Nat)(hX:∀t,B<=t->X t=0)(hB:B<=100)(h1:∀t,RSz (X t) S1)(h2:∀t,RSz (G t) S2)(hS1:1<=S1)(hS2:1<=S2)(hS:S1+S2<=1000000000):Abs Tryz.prog 68 [BP (Dj X B) X,BP 2 G] (BP (Dj (Vf X G) (B+1)) (Vf X G)):=by
 obtain ⟨n,hn⟩:∃n,n=Dj X B:=⟨_,rfl⟩
 have hnB:n<=B:=hn▸Ep X B
 have hXn:∀t,n<=t->X t=0:=λt ht=>by
  rcases Nat.lt_or_ge t B with h | h
  .exact Fx (hn▸ht) h
  .exact hX t h
 have hfar:=λk=>Vu (X:=X) G hX k
 rw [<-hn]
 refine Ab Tryz.func68 λs0=>?_
 rw [Tryz.ntmps68]
 refine Y1<|Wa<|Y0<|Y1 ?_;refine CW (Ac rfl) (Ac rfl) rfl rfl rfl rfl rfl ?_;refine Wa<|Y0<|Aa<|Y1<|Wm ?_;refine Wq (Cc (F:=BV X) rfl (Ac rfl)) ?_;refine Wq DV ?_;refine Wa<|Y0<|AWp.block ?_
 refine AC (λmz σ=>∃k,k<=n/\mz=k/\σ=⟨[(0,.d (BP n X)),(1,.d (BP 2 G)),(5,.d (BP (Dj (KX X G k) (B+1)) (KX X G k))),(6,.d (ex (.int .i64 (((k:Nat):Int)-1))))],[]⟩) ?le ⟨n,Nat.le_refl n,rfl,rfl⟩ ?round
 case le=>exact Ah (by refine Yd ?_;refine Yd ?_;(refine FrLe.cons rfl (Ef rfl (BJ (by rw [show Dj (KX X G n) (B+1)=0 from (IL (F:=λ_=>0) (n:=0) (λt=>by rw [A1E G hXn t];rfl) (hfar n)).symm];rfl))) ?_);exact Yd<|FrLe.nil) (by exact HpLe.nil)
 case round=>
  rintro mz _ ⟨k,hk,rfl,rfl⟩
  rcases mz with _ | i
  .rw [ZM]
   refine Aa<|Y1<|Wm ?_;refine Wq Aj ?_;refine Y0<|Cf<|AA<|Aq<|Ar<|ABlock.hit<|Yn<|Y1<|Wm<|Wa<|Y0<|Am ?_
   exact Yf
  .rw [show (((i+1:Nat):Int)-1)=((i:Nat):Int) by omega]
   have hlt:i<n:=by omega
   have hin:(0:Int)<=((i:Nat):Int):=by omega
   have hsz:=λt=>SW (X:=λt=>X (t+(i+1))) (G:=G) (λt=>h1 _) h2 hS1 t
   have cs:=RC (KX X G (i+1)) (Dj (KX X G (i+1)) (B+1)) (by have:=Ep (KX X G (i+1)) (B+1);omega)
   rw [GM (YR (hfar (i+1))) (UN (hfar (i+1)))] at cs
   have cc:=Ks (X i) G 2 S1 S2 (by omega) (h1 i) h2 (by omega)
   have ca:=NR (EN (KX X G (i+1))) (λk=>X i*G k) (Dj (EN (KX X G (i+1))) (B+2)) (Dj (λk=>X i*G k) 2) (S1+S2+(S1+S2)+1) (S1+S2) (by have:=Ep (EN (KX X G (i+1))) (B+2);omega) (by have:=Ep (λk=>X i*G k) 2;omega) (YQ hsz (by omega)) (λk=>(h1 i).mul (h2 k)) (by omega) (by omega) (by omega)
   have hsum:∀t,Du (aU (EN (KX X G (i+1))) (λk=>X i*G k) (Dj (EN (KX X G (i+1))) (B+2)) (Dj (λk=>X i*G k) 2)) (max (Dj (EN (KX X G (i+1))) (B+2)) (Dj (λk=>X i*G k) 2)) t=KX X G i t:=λt=>by
    have e1:Du (EN (KX X G (i+1))) (Dj (EN (KX X G (i+1))) (B+2)) t=EN (KX X G (i+1)) t:=LZ (UN (hfar (i+1))) (Nat.le_refl _) t
    have e2:Du (λk=>X i*G k) (Dj (λk=>X i*G k) 2) t=if t<2 then X i*G t else 0:=by rw [Ot];rfl
    rw [A2O,e1,e2,<-ZN]
   rw [GM hsum (hfar i)] at ca
   refine Aa<|Y1<|Wm ?_;refine Wq Ak ?_;refine Y0<|Ct<|Ys<|Aa<|AWp.block ?_
   refine Dr [[],[(15,0)],[],[],[(17,2),(18,3)],[(19,4)],[],[(20,5),(21,6)],[(16,1),(22,7)]] [[],[0],[],[],[2,3],[2,3,4],[],[0,1,2,3,4,5,6],[0,1,2,3,4,5,6,7]] ?_
   refine Xq Af ?_;refine Xq (Ad (cs)) ?_;refine Xq Af ?_;refine Xq Af ?_;(refine Xq (FH (F:=BV X) (k:=i) rfl (ah rfl) (Ac rfl) (Ac rfl) rfl hlt) ?_);refine Xq AB ?_;refine Xq Af ?_;refine Xq (Ad (cc)) ?_;refine Xq (Ad (ca)) ?_;refine ⟨_,rfl,?_⟩
   refine Wa<|AWl.nil<|Ag<|Yn<|AWp.region<|Wm ?_;refine Wq DV ?_;refine Wa<|AWl.nil ?_
   refine ALoop.next i (by omega) ⟨i,by omega,rfl,rfl⟩ ?_
   exact Ah (by exact Yd<|Yd<|Yd<|Yd<|FrLe.nil) (by exact HpLe.nil)
theorem Mq(a:Nat->Int)(h:In8 a 0 1000000):Abs Tryz.prog 36 [Bb (AK a)] (ex (.int .i64 (BQ 8 0 a:Nat))):=by
 have hb:=GQ h
 refine Ab Tryz.func36 λs0=>?_
 rw [Tryz.ntmps36]
 apply Y1;refine Bx ?_;refine Wa<|Y0<|Y1<|Wa<|Y0<|Aa<|Y1<|Wa<|Y0<|AWp.block ?_
 refine AC (λmz σ=>∃k,k<=8/\mz=8-k/\σ=⟨[(1,.ptr 0 0),(3,.d (ex (.int .i64 (CZ a k)))),(4,.d (ex (.int .i64 (k:Nat))))],[.var 55 ((AK a).map .d)]⟩) ?le ⟨0,by omega,rfl,rfl⟩ ?round
 case le=>exact Ah (by exact Yp<|Yd<|Yd<|FrLe.nil) (by exact Yv<|HpLe.nil)
 case round=>
  rintro mz _ ⟨k,hk,rfl,rfl⟩
  by_cases hlt:k<8
  .have h1:=hb k (by omega)
   have h2:=h k hlt
   refine Aa<|Y1<|Wm ?_;refine Wq Ak ?_;refine Y0<|Ct<|Ys<|Aa<|AWp.block<|AWp.region<|Wm<|Wm ?_;refine Wq BE ?_;refine Wq BI ?_;refine Wq CC ?_;refine Wa<|AWl.nil<|Ag<|Yn<|AWp.region<|Wm ?_;refine Wq AD ?_;refine Wa<|AWl.nil ?_
   refine ALoop.next (8-(k+1)) (by omega) ⟨k+1,by omega,rfl,rfl⟩ ?_
   exact Ah (by exact Yp<|Yd<|Yd<|FrLe.nil) (by exact Yv<|HpLe.nil)
  .obtain rfl:k=8:=by omega
   rw [Vz λj hj=>(h j hj).1]
   refine Aa<|Y1<|Wm ?_;refine Wq Aj ?_;refine Y0<|Cf<|AA<|Aq<|Ar<|ABlock.hit<|Yn<|Y1<|Wm<|Wa<|Y0<|Am ?_
   exact Yf
theorem RF:Abs Tryz.prog 49 [AZ []] (nD 1 λd=>if d=0 then 1 else 0):=by
 refine Ab Tryz.func49 λs0=>?_
 rw [Tryz.ntmps49]
 refine Y1<|Wa<|Y0<|Aa<|Y1<|Wm ?_;refine Wq (Dh (ms:=[]) (k:=0) rfl rfl (Ac rfl)) ?_;refine Wq Ak ?_;refine Y0<|Ct<|Y1 ?_;(refine CD rfl rfl ?_;(refine Cl (Ac rfl) (Ac rfl) rfl rfl rfl rfl rfl ?_;(repeat ((first | refine ⟨_,AW (ao rfl),?_⟩ | refine ⟨_,Po rfl,?_⟩);refine ⟨_,rfl,?_⟩));refine ⟨_,rfl,?_⟩));refine Wa<|Y0<|Am<|AP ?_
 exact Yf
theorem A0l(l:Ai)(h0:0<l.length)(hl:l.length<=1000)(hi:In8 (AH l 0) 0 1000000)(hz:BQ 8 0 (AH l 0)=0):Abs Tryz.prog 49 [AZ l] (nD 0 λ_=>0):=by
 have cd:=Mq (AH l 0) hi
 rw [hz] at cd
 have hl0:¬l.length=0:=by omega
 refine Ab Tryz.func49 λs0=>?_
 rw [Tryz.ntmps49]
 refine Y1<|Wa<|Y0<|Aa<|Y1<|Wm ?_;refine Wq AR ?_;refine Wq Aj ?_;refine Y0<|Cf<|Ys<|Aa<|Y1<|Wm ?_;refine Wq AE ?_;refine Wq AB ?_;refine Wq (Ad (cd)) ?_;refine Wq Ak ?_;refine Y0<|Ct<|Y1<|Wa<|Y0<|Am<|AP ?_
 exact AN (Rets.of1 (ResV.tmp rfl rfl) (Dw))
theorem XA(l rest:Ai)(a:Nat->Int)(n1 n2 N:Nat)(f1 f2 f:Nat->Int)(hr:l=rest++[a])(hl:l.length<=1000)(hi:∀y∈l,In8 y 0 64)(hz:¬BQ 8 0 (AH l 0)=0)(c1:Abs Tryz.prog 49 [AZ rest] (nD n1 f1))(c2:Abs Tryz.prog 49 [AZ (Fc (rest.map λy=>qM y a) (rest.map λy=>qM y a).length)] (nD n2 f2))(cl:Abs Tryz.prog 98 [nD n1 f1,ex (.int .i64 (BQ 8 0 a:Nat)),nD n2 f2] (nD N f)):Abs Tryz.prog 49 [AZ l] (nD N f):=by
 have hlen:l.length=rest.length+1:=by rw [hr,List.length_append];rfl
 have hl0:¬l.length=0:=by omega
 have hi0:=hi _ (Cg (ms:=l) (k:=0) (by omega))
 have cd0:=Mq (AH l 0) (hi0.mono (by omega) (by omega))
 have ha:In8 a 0 64:=hi a (by rw [hr];simp)
 have cda:=Mq a (ha.mono (by omega) (by omega))
 have cc:=XX rest a (by omega) (λy hy=>(hi y (by rw [hr];simp [hy])).mono (by omega) (by omega)) (ha.mono (by omega) (by omega))
 have hat:l.getD (l.length-1) default=a:=by rw [hr];simp
 have htk:l.take (l.length-1)=rest:=by rw [hr];simp
 have hlt:l.length-1<l.length:=by omega
 have hle:l.length-1<=l.length:=by omega
 have hsub:((l.length:Nat):Int)-1=((l.length-1:Nat):Int):=by omega
 refine Ab Tryz.func49 λs0=>?_
 rw [Tryz.ntmps49]
 refine Y1<|Wa<|Y0<|Aa<|Y1<|Wm ?_;refine Wq AR ?_;refine Wq Aj ?_;refine Y0<|Cf<|Ys<|Aa<|Y1<|Wm ?_;refine Wq AE ?_;refine Wq AB ?_;refine Wq (Ad (cd0)) ?_;refine Wq Aj ?_;refine Y0<|Cf<|Ys<|Y1<|Wm<|Wm ?_;refine Wq AR ?_;refine Wq CM ?_;refine Wq AE ?_;refine Wq AB ?_;refine Al ?_;refine Sf ?_;refine Y0<|Y1<|Wm<|Wm ?_;refine Wq AR ?_;refine Wq CM ?_;refine Wq A0o ?_;refine Wa<|Y0<|Aa ?_
 rw [htk,hat]
 refine Dr [[],[(25,0)],[],[(27,2)],[],[],[(29,4),(30,5)],[(31,6)],[(26,1),(28,3),(32,7)]] [[],[0],[],[0,1,2],[],[],[0,1,2,3,4,5],[0,1,2,3,4,5,6],[0,1,2,3,4,5,6,7]] ?_
 refine Xq Af ?_;refine Xq (Ad (c1)) ?_;refine Xq At ?_;refine Xq (Ad (cda)) ?_;refine Xq Af ?_;refine Xq At ?_;refine Xq (Ad (cc)) ?_;refine Xq (Ad (c2)) ?_;refine Xq (Ad (cl)) ?_;refine ⟨_,rfl,?_⟩
 refine Wa<|Y0<|Am ?_
 exact Yf
theorem Yq{f:Nat->Int}{N M:Nat}(hf:∀i,N<=i->f i=0)(hl:N=0\/f (N-1)≠0)(hM:∀i,M<=i->f i=0):FM f M=N:=by
 have h1:=IM hM
 rcases Nat.lt_trichotomy (FM f M) N with h2 | h2 | h2
 .rcases hl with h3 | h3
  .omega
  .exact absurd (h1 (N-1) (by omega)) h3
 .exact h2
 .rcases Ou f M with h3 | h3
  .omega
  .exact absurd (hf (FM f M-1) (by omega)) h3
theorem Jg{L:Ai}:∀{k:Nat},k<=L.length->∀x∈Fc L k,x∈L
 | 0,_,x,h=>by cases h
 | k+1,hk,x,h=>by
  rw [Fc] at h
  split at h
  .rcases KU h with h1 | h1
   .rw [h1]
    exact Cg (by omega)
   .exact Jg (by omega) x h1
  .exact Jg (by omega) x h
def A3J(l:Ai):Prop:=∀a∈l,BQ 8 0 a=0->BQ 8 0 (AH l 0)=0
theorem KY{a:Nat->Int}(h:∀j,j<8->0<=a j):BQ 8 0 a=0↔∀j,j<8->a j=0:=by
 have h0:=h 0 (by omega);have h1:=h 1 (by omega);have h2:=h 2 (by omega);have h3:=h 3 (by omega)
 have h4:=h 4 (by omega);have h5:=h 5 (by omega);have h6:=h 6 (by omega);have h7:=h 7 (by omega)
 constructor
 .intro hd j hj
  simp only [BQ,Nat.zero_add,Nat.reduceAdd] at hd
  have:j=0\/j=1\/j=2\/j=3\/j=4\/j=5\/j=6\/j=7:=by omega
  rcases this with rfl | rfl | rfl | rfl | rfl | rfl | rfl | rfl<;>omega
 .intro hd
  have g0:=hd 0 (by omega);have g1:=hd 1 (by omega);have g2:=hd 2 (by omega);have g3:=hd 3 (by omega)
  have g4:=hd 4 (by omega);have g5:=hd 5 (by omega);have g6:=hd 6 (by omega);have g7:=hd 7 (by omega)
  simp only [BQ,Nat.zero_add,Nat.reduceAdd]
  omega
theorem IsMin.one1{l R:Ai}(h:IsMin l R)(hR:∀y∈R,∀j,j<8->0<=y j):A3J R:=λa ha hd=>by
 have hz:=(KY (hR a ha)).1 hd
 have h0:0<R.length:=List.length_pos_of_mem ha
 have hm:=Cg (ms:=R) (k:=0) h0
 have he:=h.anti a ha _ hm λj hj=>by rw [hz j hj];exact hR _ hm j hj
 exact (KY (hR _ hm)).2 λj hj=>by rw [<-he j hj];exact hz j hj
theorem In8.sup{a:Nat->Int}{B:Int}(h:In8 a 0 B):SupN 8 a:=λj hj=>⟨(h j hj).1,λh8=>by omega⟩
theorem A2Z{y a:Nat->Int}{B:Int}(hy:In8 y 0 B)(ha:In8 a 0 B):In8 (qM y a) 0 B:=λj hj=>by
 have h1:=hy j hj
 have h2:=ha j hj
 show 0<=y j-min (y j) (a j)/\y j-min (y j) (a j)<=B
 omega
theorem Rh{a b:Nat->Int}:∀(k i:Nat),(∀j,i<=j->j<i+k->a j<=b j)->BQ k i a<=BQ k i b
 | 0,_,_=>Nat.le_refl _
 | k+1,i,h=>by
  have h1:=Rh k (i+1) λj h1 h2=>h j (by omega) (by omega)
  have h2:=h i (by omega) (by omega)
  simp only [BQ]
  omega
theorem A1M{a b:Nat->Int}(h:∀j,j<8->a j<=b j):BQ 8 0 a<=BQ 8 0 b:=Rh 8 0 λj _ hj=>h j (by omega)
theorem A32{k:Nat}(h:k<=12):(2:Int)^k<=4096:=by
 have h1:∀k,k<=12->(2:Int)^k<=4096:=by decide
 exact h1 k h
theorem A0m(Dg:Nat)(hD:Dg<=512):∀(m:Nat),m<=12->∀(l:Ai),l.length<=m->(∀y∈l,In8 y 0 64)->(∀y∈l,BQ 8 0 y<=Dg)->A3J l->∀(N:Nat) (f:Nat->Int),NumL l N f->Abs Tryz.prog 49 [AZ l] (nD N f):=by
 intro m
 induction m with
 | zero=>
  intro _ l hl _ _ _ N f hn
  obtain rfl:l=[]:=List.eq_nil_of_length_eq_zero (by omega)
  obtain ⟨rfl,rfl⟩:=NumL.nil.inj hn (λa ha=>by cases ha)
  exact RF
 | succ m ih=>
  intro hm l hl hi hg h1 N f hn
  have hs:∀a∈l,SupN 8 a:=λa ha=>(hi a ha).sup
  by_cases hnil:l=[]
  .subst hnil
   obtain ⟨rfl,rfl⟩:=NumL.nil.inj hn (λa ha=>by cases ha)
   exact RF
  .have hpos:0<l.length:=List.length_pos_iff.2 hnil
   have hm0:=Cg (ms:=l) (k:=0) hpos
   have h00:=hi _ hm0
   by_cases hz:BQ 8 0 (AH l 0)=0
   .obtain ⟨rfl,rfl⟩:=(NumL.one hm0 ((KY λj hj=>(h00 j hj).1).1 hz)).inj hn hs
    exact A0l l hpos (by omega) (h00.mono (by omega) (by omega)) hz
   .obtain ⟨rest,a,rfl⟩:∃rest a,l=rest++[a]:=⟨l.dropLast,l.getLast hnil,(List.dropLast_concat_getLast hnil).symm⟩
    have hlen:rest.length+1=(rest++[a]).length:=by simp
    have hir:∀y∈rest,In8 y 0 64:=λy hy=>hi y (by simp [hy])
    have hia:In8 a 0 64:=hi a (by simp)
    have hgr:∀y∈rest,BQ 8 0 y<=Dg:=λy hy=>hg y (by simp [hy])
    obtain ⟨n1,f1,_,hn1,hN1,hb1,_⟩:=Em Dg m hD (by omega) rest (by omega) hir hgr
    obtain ⟨Q,hQ⟩:∃Q,Q=rest.map λy=>qM y a:=⟨_,rfl⟩
    have hQl:Q.length=rest.length:=by rw [hQ,List.length_map]
    have hiQ:∀y∈Q,In8 y 0 64:=λy hy=>by
     rw [hQ] at hy
     obtain ⟨z,hz,rfl⟩:=List.mem_map.1 hy
     exact A2Z (hir z hz) hia
    have hgQ:∀y∈Q,BQ 8 0 y<=Dg:=λy hy=>by
     rw [hQ] at hy
     obtain ⟨z,hz,rfl⟩:=List.mem_map.1 hy
     refine Nat.le_trans (A1M λj hj=>?_) (hgr z hz)
     have h1:=hir z hz j hj
     have h2:=hia j hj
     show z j-min (z j) (a j)<=z j
     omega
    have hRm:=Va Q
    obtain ⟨R,hR⟩:∃R,R=Fc Q Q.length:=⟨_,rfl⟩
    have hRs:∀x∈R,x∈Q:=λx hx=>Jg (Nat.le_refl _) x (hR▸hx)
    have hRl:R.length<=Q.length:=hR▸Jh Q Q.length
    rw [<-hR] at hRm
    obtain ⟨n2,f2,_,hn2,hN2,hb2,_⟩:=Em Dg m hD (by omega) R (by omega) (λy hy=>hiQ y (hRs y hy)) (λy hy=>hgQ y (hRs y hy))
    have hn0:0<n1:=Nat.pos_of_ne_zero λe=>by
     subst e
     obtain ⟨b,hb,hb0⟩:=hn1.whole λy hy=>(hir y hy).sup
     exact hz (h1 b (by simp [hb]) ((KY λj hj=>(hir b hb j hj).1).2 hb0))
    have h1r:A3J rest:=λb hb hb0=>absurd (h1 b (by simp [hb]) hb0) hz
    have c1:=ih (by omega) rest (by omega) hir hgr h1r n1 f1 hn1
    have c2:=ih (by omega) R (by omega) (λy hy=>hiQ y (hRs y hy)) (λy hy=>hgQ y (hRs y hy)) (hRm.one1 λy hy j hj=>(hiQ y (hRs y hy) j hj).1) n2 f2 hn2
    have hp:=A32 (k:=m) (by omega)
    have hk:1+Dg*m<=6145:=by
     have:=Nat.mul_le_mul hD (show m<=12 by omega)
     omega
    have hda:BQ 8 0 a<=512:=Nat.le_trans (hg a (by simp)) hD
    have cl:=XB n1 n2 (BQ 8 0 a) f1 f2 hn0 (by omega) (by omega) hda (λi=>by have:=hb1 i;omega) (λi=>by have:=hb2 i;omega) hn1.far hn2.far
    have hff:f=λd=>f1 d-Fg (BQ 8 0 a) f2 d:=A1q hn1.num hn.num hn2.num (hQ▸hRm) (λy hy=>(hir y hy).sup) hia.sup
    have htr:FM (λt=>f1 t-Fg (BQ 8 0 a) f2 t) (mX n1 (BQ 8 0 a) n2)=N:=by
     rw [<-hff]
     refine Yq hn.far hn.last λi hi=>?_
     rw [hff]
     have e1:f1 i=0:=hn1.far i (by unfold mX at hi;split at hi<;>omega)
     have e2:Fg (BQ 8 0 a) f2 i=0:=by
      unfold Fg
      split
      .refine hn2.far _ ?_
       unfold mX at hi
       split at hi<;>omega
      .rfl
     show f1 i-Fg (BQ 8 0 a) f2 i=0
     rw [e1,e2]
     rfl
    rw [htr,<-hff] at cl
    exact XA (rest++[a]) rest a n1 n2 N f1 f2 f rfl (by omega) hi hz c1 (by rw [<-hQ,<-hR];exact c2) cl
theorem LL{z:Int}(h0:-100000<=z)(h1:z<=100000):(As z.natAbs).length<=1:=Fq (by simp only [BB,Nat.pow_one];omega)
theorem XC(z w:Int)(h0:-1000<=z)(h1:z<=1000)(h2:0<w)(h3:w<=1000):Abs Tryz.prog 66 [Bb (BT (z:Rat)),Bb (BT (w:Rat))] (BC [Bb (BT (Rat.divInt (z*1) (1*w))),ex (.int .i64 0)]):=by
 have l1:=LL (z:=z) (by omega) (by omega)
 have l2:=LL (z:=w) (by omega) (by omega)
 have l3:=LL (z:=z*1) (by omega) (by omega)
 have l4:=LL (z:=1*w) (by omega) (by omega)
 have l5:=LL (z:=1) (by omega) (by omega)
 refine Ab Tryz.func66 λs0=>?_
 rw [Tryz.ntmps66]
 apply Y1;refine Bx ?_;refine Bx ?_;refine Al ?_;refine Wa<|Y0<|Aa ?_
 refine Dr [[],[(6,0)],[],[(8,2)],[(7,1),(9,3)],[],[(11,5)],[],[(13,7)],[(12,6),(14,8)],[(10,4),(15,9)],[(16,10)],[(16,10)]] [[],[0],[],[2],[0,1,2,3],[],[5],[],[7],[0,1,2,3,4,5,6,7,8],[0,1,2,3,4,5,6,7,8,9],[0,1,2,3,4,5,6,7,8,9,10],[0,1,2,3,4,5,6,7,8,9,10]] ?_
 refine Xq AL ?_;refine Xq At ?_;refine Xq AL ?_;refine Xq At ?_;refine Xq (Ad (EJ z 1 (by omega) (by omega))) ?_;refine Xq AL ?_;refine Xq At ?_;refine Xq AL ?_;refine Xq At ?_;refine Xq (Ad (EJ 1 w (by omega) (by omega))) ?_;refine Xq (Ad (WA (z*1) (1*w) (by omega) (by omega) (by omega))) ?_;refine Xq AI ?_;refine Xq AI ?_;refine ⟨_,rfl,?_⟩
 refine Sf ?_;refine Wa<|Y0<|Am ?_
 exact AN (BA (ResV.cell rfl rfl (Ac rfl) rfl rfl rfl) (ResV.tmp rfl rfl) (Be (D.le.refl _) (D.le.refl _)))
def gT(i j k:Nat):Rat:=if k=0 then ((((i+1:Nat):Int)-((j:Nat):Int):Int):Rat) else ((1:Int):Rat)
theorem UQ(c:Rat)(j i:Nat):Gs c j (i+1)=λt=>Rat.divInt (1*1) (1*((i+1:Nat):Int))*Vf (Gs c j i) (gT i j) t:=by
 funext t
 have e0:pG (i+1) j 0=Rat.divInt (((i+1:Nat):Int)-((j:Nat):Int)) ((i+1:Nat):Int):=rfl
 have e1:pG (i+1) j 1=Rat.divInt 1 ((i+1:Nat):Int):=rfl
 rw [LA,e0,e1,Int.one_mul,Int.one_mul]
 unfold Vf
 have g0:gT i j 0=((((i+1:Nat):Int)-((j:Nat):Int):Int):Rat):=rfl
 have g1:gT i j 1=((1:Int):Rat):=rfl
 rw [g0,g1,Rat.divInt_eq_div,Rat.divInt_eq_div,Rat.div_def,Rat.div_def]
 generalize ((((i+1:Nat):Int)-((j:Nat):Int):Int):Rat)=x
 generalize ((((i+1:Nat):Int)):Rat)⁻¹=y
 generalize Gs c j i t=u
 generalize EN (Gs c j i) t=v
 have:((1:Int):Rat)=1:=rfl
 rw [this]
 grind
def sT:Nat->Nat
 | 0=>2
 | i+1=>2*sT i+5
theorem SF(i:Nat):2<=sT i:=by
 induction i with
 | zero=>exact Nat.le_refl 2
 | succ i ih=>rw [sT];omega
theorem YF{i:Nat}(h:i<=7):sT i<=1000:=by
 have h1:∀i,i<=7->sT i<=1000:=by decide
 exact h1 i h
theorem A2I{i j:Nat}(hi:i<=1000)(hj:j<=100000)(k:Nat):RSz (gT i j k) 1:=by
 unfold gT
 split
 .exact MK (by omega) (by omega)
 .exact MK (by omega) (by omega)
theorem ZE(i:Nat)(hi:i<1000):RSz (Rat.divInt (1*1) (1*((i+1:Nat):Int))) 2:=by
 rw [Int.one_mul,Int.one_mul]
 exact (YY (i+1) 0 1 (by omega) (by omega) (by omega)).mono (by omega)
theorem OK{c:Rat}(hc:RSz c 2){j:Nat}(hj:j<=100000):∀i,i<=1000->∀t,RSz (Gs c j i t) (sT i)
 | 0,_,t=>by
  rw [Ja]
  split
  .exact hc
  .exact (MK (x:=0) (by omega) (by omega)).mono (by decide)
 | i+1,h,t=>by
  rw [UQ]
  have h1:=SW (X:=Gs c j i) (G:=gT i j) (S1:=sT i) (S2:=1) (OK hc hj i (by omega)) (A2I (by omega) hj) (by have:=SF i;omega) t
  exact ((ZE i (by omega)).mul h1).mono (by rw [sT];omega)
theorem GY(c:Rat)(j i t:Nat)(h:i+1<=t):Gs c j i t=0:=Jb c j i t (by omega)
theorem KJ(q:Nat->Int)(Dg:Nat)(hD:0<Dg):∀M t,Dg<=t->II q Dg M t=0
 | 0,t,_=>Jc q Dg t
 | M+1,t,h=>by rw [Jd,KJ q Dg hD M t h,Jb _ _ _ _ (by omega),Rat.add_zero]
theorem YW{q:Nat->Int}(hq:∀j,-9223372036854775808<=q j/\q j<=9223372036854775807){Dg:Nat}(hD:Dg<=8):∀M,M<=10000->∀t,RSz (II q Dg M t) (M*1001+1)
 | 0,_,t=>by rw [Jc];exact MK (x:=0) (by omega) (by omega)
 | M+1,h,t=>by
  rw [Jd]
  have h1:=YW hq hD M (by omega) t
  have h2:=OK (Ly (hq M).1 (hq M).2) (j:=M) (by omega) (Dg-1) (by omega) t
  have h3:=YF (i:=Dg-1) (by omega)
  exact (h1.add h2).mono (by omega)
theorem Xz(l R:Ai)(n N:Nat)(f:Nat->Int)(ck:Abs Tryz.prog 48 [AZ l,ex (.int .i64 (n:Nat))] (ex (.int .i64 0)))(cm:Abs Tryz.prog 50 [AZ l] (AZ R))(cn:Abs Tryz.prog 49 [AZ R] (nD N f)):Abs Tryz.prog 15 [AZ l,ex (.int .i64 (n:Nat))] (BC [nD N f,ex (.int .i64 0)]):=by
 refine Ab Tryz.func15 λs0=>?_
 rw [Tryz.ntmps15]
 refine Y1<|Wa<|Wa<|Y0<|Y1<|Wm<|Wm ?_;refine Wq (Ad (ck)) ?_;refine Wa<|Y0<|Aa<|Y1<|Wm ?_;refine Wq Aj ?_;refine Y0<|Cf<|Ys<|Y1<|Wm ?_;refine Wq (Ad (cm)) ?_;refine Wq (Ad (cn)) ?_;refine Wa<|Wa<|Y0<|Am ?_
 exact AN (BA (ResV.tmp rfl rfl) (ResV.tmp rfl rfl) (Be (D.le.refl _) (D.le.refl _)))
theorem TA(l:Ai)(n N:Nat)(d:Int)(f:Nat->Int)(F:Nat->Rat)(hd:d<=0)(cn:Abs Tryz.prog 15 [AZ l,ex (.int .i64 (n:Nat))] (BC [nD N f,ex (.int .i64 0)]))(cd:Abs Tryz.prog 23 [AZ l,ex (.int .i64 (n:Nat))] (BC [ex (.int .i64 d),ex (.int .i64 0)])):Abs Tryz.prog 27 [AZ l,ex (.int .i64 (n:Nat))] (BC [BP 0 F,ex (.int .i64 0)]):=by
 refine Ab Tryz.func27 λs0=>?_
 rw [Tryz.ntmps27]
 refine Y1<|Wa<|Wa<|Y0<|Y1<|Wm<|Wm ?_;refine Wq (Ad (cn)) ?_;refine Wm ?_;refine Wq AI ?_;refine Wq AI ?_;refine Wa<|Wa<|Y0<|Aa<|Y1<|Wm ?_;refine Wq Aj ?_;refine Y0<|Cf<|Ys<|Y1<|Wm<|Wm ?_;refine Wq (Ad (cd)) ?_;refine Wm ?_;refine Wq AI ?_;refine Wq AI ?_;refine Wa<|Wa<|Y0<|Y1 ?_;refine CW (Ac rfl) (Ac rfl) rfl rfl rfl rfl rfl ?_;refine Wa<|Y0<|Aa<|Y1<|Wm ?_;refine Wq Ak ?_;refine Y0<|Ct<|Y1<|Wm<|Wa<|Wa<|Y0<|Am<|AP ?_
 exact AN (BA (ResV.tmp rfl rfl) (ResV.tmp rfl rfl) (Be (D.le.refl _) (D.le.refl _)))
theorem Xx(l:Ai)(n N Dg M:Nat)(f q:Nat->Int)(hD:0<Dg)(hD8:Dg<=n)(hn:n<=8)(hM:M<=9000)(hq:∀j,-9223372036854775808<=q j/\q j<=9223372036854775807)(cn:Abs Tryz.prog 15 [AZ l,ex (.int .i64 (n:Nat))] (BC [nD N f,ex (.int .i64 0)]))(cd:Abs Tryz.prog 23 [AZ l,ex (.int .i64 (n:Nat))] (BC [ex (.int .i64 (Dg:Nat)),ex (.int .i64 0)]))(cr:Abs Tryz.prog 57 [nD N f,ex (.int .i64 (n-Dg:Nat))] (nD M q)):Abs Tryz.prog 27 [AZ l,ex (.int .i64 (n:Nat))] (BC [BP (Dj (II q Dg M) Dg) (II q Dg M),ex (.int .i64 0)]):=by
 have hD0:¬((Dg:Nat):Int)<=0:=by omega
 have hsub:((n:Nat):Int)-((Dg:Nat):Int)=((n-Dg:Nat):Int):=by omega
 rw [<-hsub] at cr
 refine Ab Tryz.func27 λs0=>?_
 rw [Tryz.ntmps27]
 refine Y1<|Wa<|Wa<|Y0<|Y1<|Wm<|Wm ?_;refine Wq (Ad (cn)) ?_;refine Wm ?_;refine Wq AI ?_;refine Wq AI ?_;refine Wa<|Wa<|Y0<|Aa<|Y1<|Wm ?_;refine Wq Aj ?_;refine Y0<|Cf<|Ys<|Y1<|Wm<|Wm ?_;refine Wq (Ad (cd)) ?_;refine Wm ?_;refine Wq AI ?_;refine Wq AI ?_;refine Wa<|Wa<|Y0<|Y1 ?_;refine CW (Ac rfl) (Ac rfl) rfl rfl rfl rfl rfl ?_;refine Wa<|Y0<|Aa<|Y1<|Wm ?_;refine Wq Aj ?_;refine Y0<|Cf<|Ys<|Y1<|Wm<|Wm<|Wm ?_;refine Wq DV ?_;refine Wq (Ad (cr)) ?_;refine Wa<|Y0<|Aa<|Y1<|Wa<|Y0<|AWp.block ?_
 refine AC (λmz σ=>∃i,i<=M/\mz=M-i/\σ=⟨[(8,.d (ex (.int .i64 (Dg:Nat)))),(10,.d (BP (Dj (II q Dg i) Dg) (II q Dg i))),(11,.d (nD M q)),(12,.d (ex (.int .i64 (i:Nat))))],[]⟩) ?lei ⟨0,by omega,rfl,rfl⟩ ?roundi
 case lei=>exact Ah (by refine Yd ?_;(refine FrLe.cons rfl (Ef rfl (BJ (by rw [show Dj (II q Dg 0) Dg=0 from (IL (F:=λ_=>0) (n:=0) (λt=>by rw [Jc];rfl) (KJ q Dg hD 0)).symm];rfl))) ?_);exact Yd<|Yd<|FrLe.nil) (by exact HpLe.nil)
 case roundi=>
  rintro mz _ ⟨i,hi,rfl,rfl⟩
  by_cases hlti:i<M
  .have hqi:=hq i
   have hc2:RSz ((q i:Int):Rat) 2:=Ly hqi.1 hqi.2
   have cw:Abs Tryz.prog 43 [ex (.int .i64 (q ((List.range M).getD i default)))] (Bb (BT ((q i:Int):Rat))):=by
    rw [show (List.range M).getD i default=i by rw [List.getD_eq_getElem?_getD,List.getElem?_range hlti];rfl]
    exact Ew (q i) hqi.1 hqi.2
   have ck:=RD ((q i:Int):Rat)
   rw [GM (F:=λ_=>((q i:Int):Rat)) (n:=1) (X:=Gs ((q i:Int):Rat) i 0) (B:=1) (λt=>by rw [Ja];unfold Du;by_cases h:t=0<;>simp [h]) (GY _ _ 0)] at ck
   refine Aa<|Y1<|Wm<|Wm ?_;refine Wq (BX (n:=M) (f:=q) rfl (Ac rfl)) ?_;refine Wq Ak ?_;refine Y0<|Ct<|Ys<|Aa<|AWp.block<|Y1<|Wm<|Wm ?_;refine Wq AE ?_;refine Wq CA ?_;refine Wq (Ad (cw)) ?_;refine Wq (Ad (ck)) ?_;refine Wa<|Y0<|Aa<|Y1<|Wa<|Y0<|AWp.block ?_
   refine AC (λmz σ=>∃j,j<=Dg-1/\mz=Dg-1-j/\σ=⟨[(8,.d (ex (.int .i64 (Dg:Nat)))),(10,.d (BP (Dj (II q Dg i) Dg) (II q Dg i))),(11,.d (nD M q)),(12,.d (ex (.int .i64 (i:Nat)))),(13,.d (BP (Dj (Gs ((q i:Int):Rat) i j) (j+1)) (Gs ((q i:Int):Rat) i j))),(14,.d (ex (.int .i64 ((j+1:Nat):Int))))],[]⟩) ?lej ⟨0,by omega,rfl,rfl⟩ ?roundj
   case lej=>exact Ah (by exact Yd<|Yd<|Yd<|Yd<|Yd<|Yd<|FrLe.nil) (by exact HpLe.nil)
   case roundj=>
    rintro mz _ ⟨j,hj,rfl,rfl⟩
    by_cases hltj:j<Dg-1
    .have hjD:(((j+1:Nat):Int))<((Dg:Nat):Int):=by omega
     have h1:=OK hc2 (j:=i) (by omega) j (by omega)
     have hs:=YF (i:=j) (by omega)
     have hsp:=SF j
     have h2:=A2I (i:=j) (j:=i) (by omega) (by omega)
     have cw1:=Ew 1 (by omega) (by omega)
     have cwj:=Ew (((j+1:Nat):Int)) (by omega) (by omega)
     have cdv:=XC 1 (((j+1:Nat):Int)) (by omega) (by omega) (by omega) (by omega)
     have cwd:=Ew (((j+1:Nat):Int)-((i:Nat):Int)) (by omega) (by omega)
     have cm:=Tw (Gs ((q i:Int):Rat) i j) (gT j i) (j+1) (sT j) 1 (GY _ _ j) (by omega) h1 h2 (by omega) (by omega) (by omega)
     have hm2:=SW (X:=Gs ((q i:Int):Rat) i j) (G:=gT j i) h1 h2 (by omega)
     have cs:=Ks (Rat.divInt (1*1) (1*((j+1:Nat):Int))) (Vf (Gs ((q i:Int):Rat) i j) (gT j i)) (Dj (Vf (Gs ((q i:Int):Rat) i j) (gT j i)) (j+2)) 2 (sT j+1+(sT j+1)+1) (by have:=Ep (Vf (Gs ((q i:Int):Rat) i j) (gT j i)) (j+2);omega) (ZE j (by omega)) hm2 (by omega)
     rw [GM (F:=λk=>Rat.divInt (1*1) (1*((j+1:Nat):Int))*Vf (Gs ((q i:Int):Rat) i j) (gT j i) k) (n:=Dj (Vf (Gs ((q i:Int):Rat) i j) (gT j i)) (j+2)) (X:=Gs ((q i:Int):Rat) i (j+1)) (B:=j+2) (λt=>by
      rw [UQ]
      unfold Du
      split
      .rfl
      .rename_i h
       have h3:Vf (Gs ((q i:Int):Rat) i j) (gT j i) t=0:=by
        rcases Nat.lt_or_ge t (j+2) with h4 | h4
        .exact Fx (by omega) h4
        .exact Vu (gT j i) (GY ((q i:Int):Rat) i j) 0 t h4
       show q0=Rat.divInt (1*1) (1*((j+1:Nat):Int))*Vf (Gs ((q i:Int):Rat) i j) (gT j i) t
       rw [h3]
       exact (Rat.mul_zero _).symm) (GY _ _ (j+1))] at cs
     refine Aa<|Y1<|Wm<|Wm ?_;refine Wq Ak ?_;refine Y0<|Ct<|Ys<|Aa<|AWp.block<|Y1 ?_;refine Wq (Ad (cw1)) ?_;refine Wm ?_;refine Wq (Ad (cwj)) ?_;refine Wq (Ad (cdv)) ?_;refine Wm ?_;refine Wq AI ?_;refine Wq AI ?_;refine Al ?_;refine Sf ?_;refine Wa<|Y0 ?_
     refine Dr [[],[],[],[],[(67,2),(68,3)],[(69,4)],[],[(70,5),(71,6)],[(66,1),(72,7)],[(65,0),(73,8)]] [[],[],[],[],[2,3],[2,3,4],[2,3,4,5],[2,3,4,5,6],[1,2,3,4,5,6,7],[0,1,2,3,4,5,6,7,8]] ?_
     refine Xq At ?_;refine Xq Af ?_;refine Xq Af ?_;refine Xq Af ?_;refine Xq DV ?_;refine Xq (Ad (cwd)) ?_;refine Xq (Ad (cw1)) ?_;(refine Hq rfl ?_;refine Cl (Ac rfl) (Ac rfl) rfl rfl rfl rfl rfl ?_;(repeat ((first | refine ⟨_,AW (ah rfl),?_⟩ | refine ⟨_,Po rfl,?_⟩);refine ⟨_,rfl,?_⟩));refine ⟨_,rfl,?_⟩;refine ⟨_,rfl,?_⟩);refine Xq (Ad (cm)) ?_;refine Xq (Ad (cs)) ?_;refine ⟨_,rfl,?_⟩
     refine Wa<|AWl.nil<|Ag<|Yn<|AWp.region<|Wm ?_;refine Wq AD ?_;refine Wa<|AWl.nil ?_
     refine ALoop.next (Dg-1-(j+1)) (by omega) ⟨j+1,by omega,rfl,rfl⟩ ?_
     exact Ah (by exact Yd<|Yd<|Yd<|Yd<|Yd<|Yd<|FrLe.nil) (by exact HpLe.nil)
    .obtain rfl:j=Dg-1:=by omega
     have hjD:¬(((Dg-1+1:Nat):Int))<((Dg:Nat):Int):=by omega
     have h1:=OK hc2 (j:=i) (by omega) (Dg-1) (by omega)
     have h2:=YW hq (Dg:=Dg) (by omega) i (by omega)
     have hs:=YF (i:=Dg-1) (by omega)
     have hsp:=SF (Dg-1)
     have ca:=NR (II q Dg i) (Gs ((q i:Int):Rat) i (Dg-1)) (Dj (II q Dg i) Dg) (Dj (Gs ((q i:Int):Rat) i (Dg-1)) (Dg-1+1)) (i*1001+1) (sT (Dg-1)) (by have:=Ep (II q Dg i) Dg;omega) (by have:=Ep (Gs ((q i:Int):Rat) i (Dg-1)) (Dg-1+1);omega) h2 h1 (by omega) (by omega) (by omega)
     rw [GM (F:=aU (II q Dg i) (Gs ((q i:Int):Rat) i (Dg-1)) (Dj (II q Dg i) Dg) (Dj (Gs ((q i:Int):Rat) i (Dg-1)) (Dg-1+1))) (X:=II q Dg (i+1)) (B:=Dg) (λt=>by
      have e1:Du (II q Dg i) (Dj (II q Dg i) Dg) t=II q Dg i t:=LZ (KJ q Dg hD i) (Nat.le_refl _) t
      have e2:Du (Gs ((q i:Int):Rat) i (Dg-1)) (Dj (Gs ((q i:Int):Rat) i (Dg-1)) (Dg-1+1)) t=Gs ((q i:Int):Rat) i (Dg-1) t:=LZ (GY _ _ (Dg-1)) (Nat.le_refl _) t
      rw [A2O,e1,e2,Jd]) (KJ q Dg hD (i+1))] at ca
     refine Aa<|Y1<|Wm<|Wm ?_;refine Wq Aj ?_;refine Y0<|Cf<|AA<|Aq<|Ar<|ABlock.hit<|Yn<|AWp.region<|Wm<|Wm ?_;refine Wq (Ad (ca)) ?_;refine Wa<|AWl.nil<|Ag<|Yn<|AWp.region<|Wm ?_;refine Wq AD ?_;refine Wa<|AWl.nil ?_
     refine ALoop.next (M-(i+1)) (by omega) ⟨i+1,by omega,rfl,rfl⟩ ?_
     exact Ah (by exact Yd<|Yd<|Yd<|Yd<|FrLe.nil) (by exact HpLe.nil)
  .obtain rfl:i=M:=by omega
   refine Aa<|Y1<|Wm<|Wm ?_;refine Wq (BX (n:=i) (f:=q) rfl (Ac rfl)) ?_;refine Wq Aj ?_;refine Y0<|Cf<|AA<|Aq<|Ar<|ABlock.hit<|Yn<|Y1<|Wm<|Wa<|Wa<|Y0<|Am ?_
   exact AN (BA (ResV.tmp rfl rfl) (ResV.tmp rfl rfl) (Be (D.le.refl _) (D.le.refl _)))
theorem RG(l:Ai)(n N:Nat)(d:Int)(f:Nat->Int)(hd:d<0\/64<d)(cn:Abs Tryz.prog 15 [AZ l,ex (.int .i64 (n:Nat))] (BC [nD N f,ex (.int .i64 0)])):Abs Tryz.prog 17 [AZ l,ex (.int .i64 (n:Nat)),ex (.int .i64 d)] (BC [ex (.int .i64 0),ex (.int .i64 1)]):=by
 by_cases h:d<0
 .refine Ab Tryz.func17 λs0=>?_
  rw [Tryz.ntmps17]
  refine Y1<|Wa<|Wa<|Y0<|Y1<|Wm<|Wm ?_;refine Wq (Ad (cn)) ?_;refine Wm ?_;refine Wq AI ?_;refine Wq AI ?_;refine Wa<|Wa<|Y0<|Aa<|Y1<|Wm ?_;refine Wq Aj ?_;refine Y0<|Cf<|Ys<|Aa<|Y1<|Wm ?_;refine Wq Ak ?_;refine Wm ?_;refine Ws ?_;refine Ws ?_;refine Wq AM ?_;refine Y0<|Ct<|Y1<|Wa<|Wa<|Y0<|Am<|AP ?_
  exact AN (BA (ResV.tmp rfl rfl) (ResV.tmp rfl rfl) (Be (D.le.refl _) (D.le.refl _)))
 .have h2:64<d:=by omega
  refine Ab Tryz.func17 λs0=>?_
  rw [Tryz.ntmps17]
  refine Y1<|Wa<|Wa<|Y0<|Y1<|Wm<|Wm ?_;refine Wq (Ad (cn)) ?_;refine Wm ?_;refine Wq AI ?_;refine Wq AI ?_;refine Wa<|Wa<|Y0<|Aa<|Y1<|Wm ?_;refine Wq Aj ?_;refine Y0<|Cf<|Ys<|Aa<|Y1<|Wm ?_;refine Wq Aj ?_;refine Wm ?_;refine Wg Af ?_;refine Wg Ak ?_;refine Wq Bc ?_;refine Y0<|Ct<|Y1<|Wa<|Wa<|Y0<|Am<|AP ?_
  exact AN (BA (ResV.tmp rfl rfl) (ResV.tmp rfl rfl) (Be (D.le.refl _) (D.le.refl _)))
theorem Tx(l:Ai)(n:Nat)(d:Int)(hd:0<d)(cd:Abs Tryz.prog 23 [AZ l,ex (.int .i64 (n:Nat))] (BC [ex (.int .i64 d),ex (.int .i64 0)])):Abs Tryz.prog 29 [AZ l,ex (.int .i64 (n:Nat))] (BC [ex (.slice none 0 0),ex (.int .i64 160)]):=by
 refine Ab Tryz.func29 λs0=>?_
 rw [Tryz.ntmps29]
 refine Y1<|Wa<|Wa<|Y0<|Y1<|Wm<|Wm ?_;refine Wq (Ad (cd)) ?_;refine Wm ?_;refine Wq AI ?_;refine Wq AI ?_;refine Wa<|Wa<|Y0<|Aa<|Y1<|Wm ?_;refine Wq Aj ?_;refine Y0<|Cf<|Ys<|Aa<|Y1<|Wm ?_;refine Wq Ak ?_;refine Y0<|Ct<|Y1<|Wa<|Wa<|Y0<|Am<|AP ?_
 exact AN (BA (ResV.tmp rfl rfl) (ResV.tmp rfl rfl) (Be (D.le.refl _) (D.le.refl _)))
theorem XZ{P:Program}{f:FuncId}{α:Type}{p:α->Prop}{g:α->D}{r:D}(h0:∀args w,(callFunc f args).run P w = .ok (.enter f args) w)(h:∀x y,p x->p y->Abs P f [g x,g y] r):Abs P f [Gc p g,Gc p g] r:=⟨h0,λs vs hok hl hv=>by
 obtain ⟨x,hx,e1⟩:=hv 0 (by simp)
 obtain ⟨y,hy,e2⟩:=hv 1 (by simp)
 exact (h x y hx hy).2 s vs hok hl λk hk=>by
  match k,hk with
  | 0,_=>exact e1
  | 1,_=>exact e2⟩
theorem Abs.args2{P:Program}{f:FuncId}{a b a' b' r:D}(h:Abs P f [a,b] r)(ha:D.le a' a)(hb:D.le b' b):Abs P f [a',b'] r:=⟨h.1,λs vs hok hl hv=>h.2 s vs hok hl λk hk=>by
 match k,hk with
 | 0,_=>exact ha _ _ (hv 0 (by simp))
 | 1,_=>exact hb _ _ (hv 1 (by simp))⟩
theorem A22(l:Ai)(n:Nat)(hK:∀K,IsStd l n K->K.length<=100000):Abs Tryz.prog 31 [Gc (IsStd l n) AZ,Gc (IsStd l n) AZ] (ex (.bool true)):=
 XZ (Lb [] (by decide)).1 fun x y hx hy => by
  rw [IsStd.same hy hx]
  exact Lb x (hK x hx)
theorem A23:Abs Tryz.prog 31 [ex (.slice none 0 0),ex (.slice none 0 0)] (ex (.bool true)):=(Lb [] (by decide)).args2 Dw Dw
theorem Ov{g:Nat->Int}{C:Int}:∀{k:Nat},(∀i,i<k->-C<=g i/\g i<=C)->-(C*k)<=Ba k g/\Ba k g<=C*k
 | 0,_=>by simp [Ba]
 | k+1,h=>by
  have h1:=Ov (k:=k) λi hi=>h i (by omega)
  have h2:=h k (by omega)
  have e:C*((k+1:Nat):Int)=C*(k:Int)+C:=by push_cast;rw [Int.mul_add,Int.mul_one]
  rw [Ba,e]
  omega
theorem YV{f:Nat->Int}{B:Int}(hB:0<=B)(hf:∀i,-B<=f i/\f i<=B){M:Nat}:∀(k i:Nat),i<M->-(B*M^k)<=BU k f i/\BU k f i<=B*M^k
 | 0,i,_=>by
  have:=hf i
  simp only [BU,Int.pow_zero,Int.mul_one]
  exact this
 | k+1,i,hi=>by
  have h1:=Ov (g:=BU k f) (C:=B*M^k) (k:=i+1) λj hj=>YV hB hf k j (by omega)
  have h2:B*(M:Int)^k*((i+1:Nat):Int)<=B*(M:Int)^(k+1):=by
   rw [Int.pow_succ,<-Int.mul_assoc]
   refine Int.mul_le_mul_of_nonneg_left (by omega) (Int.mul_nonneg hB (Int.pow_nonneg (by omega)))
  show -(B*(M:Int)^(k+1))<=Ba (i+1) (BU k f)/\Ba (i+1) (BU k f)<=B*(M:Int)^(k+1)
  omega
theorem Yx{N n:Nat}{f:Nat->Int}(hN:N<=193)(hn:n<=4)(hf:∀i,-4096<=f i/\f i<=4096):VH N (n+1) f:=λk hk i hi=>by
 have h1:=Mi N f k
 have h2:=Ov (g:=BU k f) (C:=4096*(193:Nat)^k) (k:=i) λj hj=>YV (by decide) hf k j (by omega)
 have h3:((193:Nat):Int)^k<=193^4:=by
  have:∀k,k<=4->((193:Nat):Int)^k<=193^4:=by decide
  exact this k (by omega)
 have h5:(0:Int)<=((193:Nat):Int)^k:=Int.pow_nonneg (by decide)
 have h4:4096*((193:Nat):Int)^k*(i:Int)<=4096*193^4*193:=by
  refine Int.le_trans (Int.mul_le_mul_of_nonneg_left (show (i:Int)<=193 by omega) (Int.mul_nonneg (by decide) h5)) ?_
  refine Int.mul_le_mul_of_nonneg_right ?_ (by decide)
  omega
 have h6:(4096:Int)*193^4*193<=9223372036854775807:=by decide
 omega
theorem A1J{l:Ai}{n N:Nat}{f:Nat->Int}(hc:HilC l n N f)(hn:n<=8)(h2:∀y∈l,SupN n y)(h:EF l n=0):inB l (λ_=>0)=false:=by
 refine Bool.eq_false_iff.2 λhb=>?_
 have hno:∀x,¬StdX l n x:=λx hx=>by
  have:=FE (y:=x) (λj hj=>(hx.1 j hj).1) hb
  rw [hx.2] at this
  cases this
 have h1:=HF (K:=[]) (B:=0) hc hn h2 (by omega) (λx=>⟨λ⟨a,ha,_⟩=>(by cases ha),λhx=>absurd hx (hno x)⟩) List.Pairwise.nil λx hx=>absurd hx (hno x)
 have h3:=hc.pos 0 h
 unfold Ti at h1
 rw [if_neg (by omega),h] at h1
 have h1:Ba (cN N f (n-0)).1 (BU (n-0) f)=0:=h1
 omega
theorem ZR{l:Ai}{n N B:Nat}{f:Nat->Int}(hc:HilC l n N f)(hn:n<=8)(h2:∀y∈l,SupN n y)(h:EF l n<0)(hB:∀x,StdX l n x->BQ n 0 x<B):inB l (λ_=>0)=true:=by
 refine Bool.not_eq_false _ |>.mp λhb=>?_
 obtain ⟨g1,g2⟩:=UA hn hB
 have h1:=HF hc hn h2 (by omega) g1 g2 hB
 unfold Ti at h1
 rw [if_pos h] at h1
 obtain ⟨a,ha,_⟩:=(g1 (λ_=>0)).2 ⟨λj hj=>⟨Int.le_refl 0,λ_=>rfl⟩,hb⟩
 have:=List.length_pos_of_mem ha
 omega
theorem A1K{l:Ai}{n N:Nat}{f:Nat->Int}(hc:HilC l n N f)(hn:n<=8)(h2:∀y∈l,SupN n y)(h:EF l n<0)(i:Nat):BU n f i=0:=by
 obtain ⟨c,hs⟩:=OO hn h2 hc.num.num
 rcases hs with ⟨_,_,h3⟩ | ⟨m,_,_,h3,_⟩
 .rw [h3]
 .have h3:EF l n=(m:Int):=h3
  omega
structure RefC(l:Ai)(n N:Nat)(f:Nat->Int):Prop where
 num:Abs Tryz.prog 15 [AZ l,ex (.int .i64 (n:Nat))] (BC [nD N f,ex (.int .i64 0)])
 ind:Abs Tryz.prog 19 [AZ l,ex (.int .i64 (n:Nat))] (BC [Oo (GJ l (2^n)),ex (.int .i64 0)])
 dim:Abs Tryz.prog 23 [AZ l,ex (.int .i64 (n:Nat))] (BC [ex (.int .i64 (EF l n)),ex (.int .i64 0)])
 deg:Abs Tryz.prog 25 [AZ l,ex (.int .i64 (n:Nat))] (BC [ex (.int .i64 (Ti l n N f)),ex (.int .i64 0)])
theorem A1h(X:List R4)(n:Nat)(hn:n<=4){N:Nat}{f:Nat->Int}(hc:HilC (Ki X n 12 4) n N f):N<=193/\RefC (Ki X n 12 4) n N f:=by
 have hin:∀y∈Ki X n 12 4,In8 y 0 64:=A2E
 have hsup:∀y∈Ki X n 12 4,SupN n y:=SU
 have hdeg:∀y∈Ki X n 12 4,BQ 8 0 y<=16:=Zs
 have hlen:=KQ X n 12 4
 generalize Ki X n 12 4=l at hc hin hsup hdeg hlen ⊢
 have h8:∀a∈l,SupN 8 a:=λa ha=>(hin a ha).sup
 have hnn:∀a∈l,∀j,j<8->0<=a j:=λa ha j hj=>(hin a ha j hj).1
 obtain ⟨N',f',_,hnl,hN',_,_⟩:=Em 16 12 (by decide) (by decide) l hlen hin hdeg
 obtain ⟨rfl,rfl⟩:=hnl.inj hc.num h8
 have hm:=Va l
 obtain ⟨R,hR⟩:∃R,R=Fc l l.length:=⟨_,rfl⟩
 have cm:=Jv l (by omega)
 rw [<-hR] at hm cm
 have hRs:∀x∈R,x∈l:=λx hx=>Jg (Nat.le_refl _) x (hR▸hx)
 have hRl:R.length<=l.length:=hR▸Jh l l.length
 obtain ⟨N2,f2,_,hn2,_,_,_⟩:=Em 16 12 (by decide) (by decide) R (by omega) (λy hy=>hin y (hRs y hy)) (λy hy=>hdeg y (hRs y hy))
 obtain ⟨rfl,rfl⟩:=(hn2.of_min hm hnn).inj hc.num h8
 have cn:=A0m 16 (by decide) 12 (by decide) R (by omega) (λy hy=>hin y (hRs y hy)) (λy hy=>hdeg y (hRs y hy)) (hm.one1 λy hy=>hnn y (hRs y hy)) _ _ hn2
 have ck:=XE l n (by omega) hlen hin hsup
 have cnum:=Xz l R n _ _ ck cm cn
 have cind:=TB l n (by omega) (by omega) ck
 have cdim:=TC l n (by omega) cind
 exact ⟨by omega,cnum,cind,cdim,XD l n _ _ (by omega) (by omega) (Yx (by omega) hn hc.bnd) cnum cdim hc.dle λh=>A1K hc (by omega) hsup h⟩
theorem WH(T:Nat)(X:List R4)(m:Nat)(d:Int)(l:Ai)(n N p:Nat)(f:Nat->Int)(F:Nat->Rat)(z e es dz dg:Int)(L:List Nat)(Y:D)(hX:∀r∈X,RH r)(hm:m<256)(hn:n=m%5)(hl:l=Ki X n 12 4)(hN:N<=1000)(hp:p<=1000)
  (a1:Abs Tryz.prog 14 [AZ l,ex (.int .i64 (n:Nat))] (BC [nD N f,ex (.int .i64 0)])) (b1:Abs Tryz.prog 15 [AZ l,ex (.int .i64 (n:Nat))] (BC [nD N f,ex (.int .i64 0)]))
  (a2:Abs Tryz.prog 16 [AZ l,ex (.int .i64 (n:Nat)),ex (.int .i64 d)] (BC [ex (.int .i64 z),ex (.int .i64 e)])) (b2:Abs Tryz.prog 17 [AZ l,ex (.int .i64 (n:Nat)),ex (.int .i64 d)] (BC [ex (.int .i64 z),ex (.int .i64 e)]))
  (a3:Abs Tryz.prog 18 [AZ l,ex (.int .i64 (n:Nat))] (BC [Oo L,ex (.int .i64 0)])) (b3:Abs Tryz.prog 19 [AZ l,ex (.int .i64 (n:Nat))] (BC [Oo L,ex (.int .i64 0)]))
  (a4:Abs Tryz.prog 22 [AZ l,ex (.int .i64 (n:Nat))] (BC [ex (.int .i64 dz),ex (.int .i64 0)])) (b4:Abs Tryz.prog 23 [AZ l,ex (.int .i64 (n:Nat))] (BC [ex (.int .i64 dz),ex (.int .i64 0)]))
  (a5:Abs Tryz.prog 24 [AZ l,ex (.int .i64 (n:Nat))] (BC [ex (.int .i64 dg),ex (.int .i64 0)])) (b5:Abs Tryz.prog 25 [AZ l,ex (.int .i64 (n:Nat))] (BC [ex (.int .i64 dg),ex (.int .i64 0)]))
  (a6:Abs Tryz.prog 26 [AZ l,ex (.int .i64 (n:Nat))] (BC [BP p F,ex (.int .i64 0)])) (b6:Abs Tryz.prog 27 [AZ l,ex (.int .i64 (n:Nat))] (BC [BP p F,ex (.int .i64 0)]))
  (a7:Abs Tryz.prog 28 [AZ l,ex (.int .i64 (n:Nat))] (BC [Y,ex (.int .i64 es)])) (b7:Abs Tryz.prog 29 [AZ l,ex (.int .i64 (n:Nat))] (BC [Y,ex (.int .i64 es)])) (cY:Abs Tryz.prog 31 [Y,Y] (ex (.bool true))) :
  Abs Tryz.prog 3 [inD T X m,ex (.int .i64 d)] (ex (.bool true)):=by
 have cm:=A0H T X n 12 4 hX (by omega) (by decide) (by decide)
 have cv:=Ym T X m hm
 rw [<-hl] at cm
 rw [<-hn] at cv
 refine Ab Tryz.func3 λs0=>?_
 rw [Tryz.ntmps3]
 apply Y1;refine Bx ?_;refine Wa<|Y0<|Y1 ?_;refine Wq (Ad (SE)) ?_;refine Wa<|Y0<|Aa<|Y1<|Wm ?_;refine Wq BH ?_;refine Y0<|Cf<|Ys<|Y1 ?_;refine Wq At ?_;refine Wq (Ad (cv)) ?_;refine Wa<|Y0<|Y1 ?_;refine Wq AL ?_;refine Wq AQ ?_;refine Wm ?_;refine Wq (Ad (cm)) ?_;refine Wa<|Y0<|Y1<|Wm<|Wm ?_;refine Wq (Ad (a1)) ?_;refine Wm ?_;refine Wq AI ?_;refine Wq AI ?_;refine Wa<|Wa<|Y0<|Y1<|Wm<|Wm ?_;refine Wq (Ad (b1)) ?_;refine Wm ?_;refine Wq AI ?_;refine Wq AI ?_;refine Wa<|Wa<|Y0<|Y1<|Wm<|Wm<|Wm ?_;refine Wq (Ad (a2)) ?_;refine Wm ?_;refine Wq AI ?_;refine Wq AI ?_;refine Wa<|Wa<|Y0<|Y1<|Wm<|Wm<|Wm ?_;refine Wq (Ad (b2)) ?_;refine Wm ?_;refine Wq AI ?_;refine Wq AI ?_;refine Wa<|Wa<|Y0<|Y1<|Wm<|Wm ?_;refine Wq (Ad (a3)) ?_;refine Wm ?_;refine Wq AI ?_;refine Wq AI ?_;refine Wa<|Wa<|Y0<|Y1<|Wm<|Wm ?_;refine Wq (Ad (b3)) ?_;refine Wm ?_;refine Wq AI ?_;refine Wq AI ?_;refine Wa<|Wa<|Y0<|Aa<|Y1<|Wm<|Wm ?_;refine Wq Aj ?_;refine Wm ?_;refine Wg Af ?_;refine Wg Af ?_;refine Wg (Ad (VJ N f (by omega))) ?_;refine Wg BH ?_;refine Wq Bc ?_;refine Wm ?_;refine Wg Af ?_;refine Wg Af ?_;refine Wg Aj ?_;refine Wq Bc ?_;refine Wm ?_;refine Wg Af ?_;refine Wg Af ?_;refine Wg Aj ?_;refine Wq Bc ?_;refine Wm ?_;refine Wg Af ?_;refine Wg Af ?_;refine Wg Aj ?_;refine Wq Bc ?_;refine Wm ?_;refine Wg Af ?_;refine Wg Af ?_;refine Wg (Ad (VI L)) ?_;refine Wg BH ?_;refine Wq Bc ?_;refine Y0<|Cf<|Ys<|Y1<|Wm<|Wm ?_;refine Wq (Ad (a4)) ?_;refine Wm ?_;refine Wq AI ?_;refine Wq AI ?_;refine Wa<|Wa<|Y0<|Y1<|Wm<|Wm ?_;refine Wq (Ad (b4)) ?_;refine Wm ?_;refine Wq AI ?_;refine Wq AI ?_;refine Wa<|Wa<|Y0<|Y1<|Wm<|Wm ?_;refine Wq (Ad (a5)) ?_;refine Wm ?_;refine Wq AI ?_;refine Wq AI ?_;refine Wa<|Wa<|Y0<|Y1<|Wm<|Wm ?_;refine Wq (Ad (b5)) ?_;refine Wm ?_;refine Wq AI ?_;refine Wq AI ?_;refine Wa<|Wa<|Y0<|Y1<|Wm<|Wm ?_;refine Wq (Ad (a6)) ?_;refine Wm ?_;refine Wq AI ?_;refine Wq AI ?_;refine Wa<|Wa<|Y0<|Y1<|Wm<|Wm ?_;refine Wq (Ad (b6)) ?_;refine Wm ?_;refine Wq AI ?_;refine Wq AI ?_;refine Wa<|Wa<|Y0<|Y1<|Wm<|Wm ?_;refine Wq (Ad (a7)) ?_;refine Wm ?_;refine Wq AI ?_;refine Wq AI ?_;refine Wa<|Wa<|Y0<|Y1<|Wm<|Wm ?_;refine Wq (Ad (b7)) ?_;refine Wm ?_;refine Wq AI ?_;refine Wq AI ?_;refine Wa<|Wa<|Y0<|Y1<|Wm<|Wm ?_;refine Wq Ak ?_;refine Wm ?_;refine Wg Af ?_;refine Wg Af ?_;refine Wg Ak ?_;refine Wq AM ?_;refine Wm ?_;refine Wg Af ?_;refine Wg Af ?_;refine Wg Ak ?_;refine Wq AM ?_;refine Wm ?_;refine Wg Af ?_;refine Wg Af ?_;refine Wg Ak ?_;refine Wq AM ?_;refine Wm ?_;refine Wg Af ?_;refine Wg Af ?_;refine Wg Ak ?_;refine Wq AM ?_;refine Wm ?_;refine Wg Af ?_;refine Wg Af ?_;refine Wg (Ad (A21 p F (by omega))) ?_;refine Wq AM ?_;refine Wm ?_;refine Wg Af ?_;refine Wg Af ?_;refine Wg Ak ?_;refine Wq AM ?_;refine Wm ?_;refine Wg Af ?_;refine Wg Af ?_;refine Wg (Ad (cY)) ?_;refine Wq AM ?_;refine Wm ?_;refine Wg Af ?_;refine Wq AM ?_;refine Wa<|Y0<|Am ?_
 exact Yf
theorem A1j{q:Nat->Int}{Dg M:Nat}(hD:0<Dg)(h:Ba M q≠0):BP (pH q Dg M).1 (pH q Dg M).2=BP (Dj (II q Dg M) Dg) (II q Dg M):=by
 have h1:=A35 hD h
 have h2:II q Dg M (Dg-1)≠0:=by
  rw [OM]
  intro h6
  rcases Rat.mul_eq_zero.1 h6 with h7 | h7
  .exact h (by exact_mod_cast h7)
  .exact Yj _ h7
 have h3:Dj (II q Dg M) Dg=Dg:=by
  obtain ⟨k,rfl⟩:∃k,Dg=k+1:=⟨Dg-1,by omega⟩
  exact if_neg h2
 rw [h3,h1]
 exact MV λt ht=>by rw [II,Du,if_pos (by omega)]
theorem SV(T:Nat)(X:List R4)(m:Nat)(d:Int)(hX:∀r∈X,RH r)(hm:m<256)(_hd:-9223372036854775808<=d/\d<=9223372036854775807):Abs Tryz.prog 3 [inD T X m,ex (.int .i64 d)] (ex (.bool true)):=by
 obtain ⟨n,hn⟩:∃n,n=m%5:=⟨_,rfl⟩
 have hn4:n<=4:=by omega
 obtain ⟨N,f,hc⟩:=A3g X n 12 hn4 (by decide)
 obtain ⟨hN,hr⟩:=A1h X n hn4 hc
 obtain ⟨l,hl⟩:∃l,l=Ki X n 12 4:=⟨_,rfl⟩
 have hsup:∀y∈l,SupN n y:=hl▸SU
 have hlen:l.length<=12:=hl▸KQ X n 12 4
 have h5:∀y∈l,∀j,j<8->y j<=((3:Nat):Int)+1:=λy hy j hj=>by
  rw [hl] at hy
  obtain ⟨r,_,rfl⟩:=KP hy
  have:=Qt n r j
  omega
 rw [<-hl] at hc hr
 obtain ⟨z,e,a2,b2⟩:∃z e:Int,Abs Tryz.prog 16 [AZ l,ex (.int .i64 (n:Nat)),ex (.int .i64 d)] (BC [ex (.int .i64 z),ex (.int .i64 e)])/\Abs Tryz.prog 17 [AZ l,ex (.int .i64 (n:Nat)),ex (.int .i64 d)] (BC [ex (.int .i64 z),ex (.int .i64 e)]):=by
  by_cases hd:d<0\/64<d
  .exact ⟨0,1,Ua l n d hd hc.ck,RG l n N d f hd hr.num⟩
  .obtain ⟨k, rfl⟩:∃k:Nat, d=k:=⟨d.toNat, by omega⟩
   have h1:=hc.count (d:=k) hn4 (by omega) hsup
   rw [<-hc.num.num n (by omega) hsup k] at h1
   exact ⟨_,_,h1,TD l n k N f hn4 (by omega) (by omega) hr.num hc.num.far hc.bnd⟩
 obtain ⟨p,F,hp,a6,b6⟩:∃(p:Nat) (F:Nat->Rat),p<=1000/\Abs Tryz.prog 26 [AZ l,ex (.int .i64 (n:Nat))] (BC [BP p F,ex (.int .i64 0)])/\Abs Tryz.prog 27 [AZ l,ex (.int .i64 (n:Nat))] (BC [BP p F,ex (.int .i64 0)]):=by
  by_cases h:EF l n<=0
  .exact ⟨0,λ_=>0,by omega,RX l n _ _ h hc.ck hc.cd,TA l n N _ f _ h hr.num hr.dim⟩
  .obtain ⟨Dm, hDm⟩:∃Dm:Nat, EF l n=Dm:=⟨(EF l n).toNat, by omega⟩
   have hd:=hc.dle
   have cd:=hc.cd
   have rd:=hr.dim
   rw [hDm] at cd rd
   have hM:=Mi N f (n-Dm)
   have hp:=hc.pos Dm hDm
   have hD:0<Dm:=by omega
   have h1:=NZ l n Dm _ _ hD (by omega) (by omega) (hc.qb Dm hDm) hc.ck cd (hc.cc Dm hDm)
   have hso:VH N (n-Dm) f:=λk hk=>Yx hN hn4 hc.bnd k (by omega)
   have h2:=Xx l n N Dm (cN N f (n-Dm)).1 f (BU (n-Dm) f) hD (by omega) (by omega) (by omega) (hc.qb Dm hDm) hr.num rd (Ju N (n-Dm) f (by omega) (by omega) hso)
   rw [A1j hD (by omega)] at h1
   exact ⟨_,_,Nat.le_trans (Ep _ _) (by omega),h1,h2⟩
 have a1:=Oc l n N f hc.ck hc.cn
 have a3:=Od l n (by omega) (by omega) hc.ck
 have a4:=Of l n _ hc.ck hc.cd
 have a5:=Sb l n _ hc.ck hc.cg
 obtain ⟨Y,es,a7,b7,cY⟩:∃(Y:D) (es:Int),Abs Tryz.prog 28 [AZ l,ex (.int .i64 (n:Nat))] (BC [Y,ex (.int .i64 es)])/\Abs Tryz.prog 29 [AZ l,ex (.int .i64 (n:Nat))] (BC [Y,ex (.int .i64 es)])/\Abs Tryz.prog 31 [Y,Y] (ex (.bool true)):=by
  by_cases h:EF l n<=0
  .have hbox:(3+1)^n<=256:=Nat.pow_le_pow_right (n:=4) (j:=4) (by decide) hn4
   have hfin:=Uz (E:=3) hc (by omega) hsup h5 h
   have hb:=Sw (by omega) hsup h5 h
   have hB:∀x,StdX l n x->BQ 8 0 x<25:=λx hx=>by
    have:=Md (x:=x) (B:=3) 8 0 λj _ hj=>hb x hx j (by omega)
    omega
   have hBn:∀x,StdX l n x->BQ n 0 x<25:=λx hx=>by
    have:=Md (x:=x) (B:=3) n 0 λj _ hj=>hb x hx j (by omega)
    omega
   refine ⟨Gc (IsStd l n) AZ, 0, Rt hc (E := 3) (by omega) (by omega) hsup h5 (by decide) h (by omega), ?_, A22 l n fun K hK => by
    have h1:=hfin.1 K hK
    have h2:=hfin.2
    omega⟩
   refine Xw l n 25 _ _ (by omega) (by omega) hB (λx hx j hj=>by have:=hb x hx j hj;omega) (λK hK hp=>?_) h (by have:=hfin.2;omega) (A1J hc (by omega) hsup) (λh0=>ZR hc (by omega) hsup (by omega) hBn) hr.dim hr.deg
   have:=Ox (by omega) hK hp hb
   omega
  .exact ⟨_,_,NO l n _ (by omega) hc.ck hc.cd,Tx l n _ (by omega) hr.dim,A23⟩
 exact WH T X m d l n N p f F z e es _ _ _ Y hX hm hn hl (by omega) hp a1 hr.num a2 b2 a3 hr.ind a4 hr.dim a5 hr.deg a6 b6 a7 b7 cY
end Go.Proofs.YtialdhnijjnpaaaGreat
