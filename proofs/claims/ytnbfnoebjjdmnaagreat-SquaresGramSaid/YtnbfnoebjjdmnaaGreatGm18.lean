/- Part 18 of the proof of squaresGram_holds. No condition. -/
import Derived.Test.YtnbfnoebjjdmnaaGreatGm17
set_option linter.unusedSimpArgs false
set_option linter.unusedVariables false
set_option maxRecDepth 100000
namespace Go.Proofs.YtnbfnoebjjdmnaaGreat
open Go.RowKit
theorem SG{P Q A:List Tm}{k:Nat}(h:k<P.length):Ip A (P.take (k+1)) Q=CV (Ip A (P.take k) Q) (Nr (AZ P k).c (AZ P k).m Q):=NV (λa s=>CV a (Nr s.c s.m Q)) A h
theorem Ni{P Q:List Tm}{n N n' N':Nat}{d d':Int}(h:PB P n N d)(hQ:PB Q n' N' d')(h0:0<=d)(h0':0<=d')(k:Nat):PB (Ip [] (P.take k) Q) (n*n') (n*(N+N'+1)) (d+d'):=by
 have:=Ma (A:=[]) (k:=0) (K:=0) (d:=d) (P:=P.take k) hQ (λt ht=>h.can.2 t (List.mem_of_mem_take ht)) (λt ht=>h.sz t (List.mem_of_mem_take ht)) (λt ht=>h.ex t (List.mem_of_mem_take ht)) PB.nil
 have hl:(P.take k).length<=n:=Nat.le_trans (by rw [List.length_take];omega) h.len
 refine this.mono ?_ ?_ (Int.le_refl _)
 .rw [Nat.zero_add];exact Nat.mul_le_mul_right _ hl
 .rw [Nat.zero_add];exact Nat.mul_le_mul_right _ hl
theorem ZA{P Q:List Tm}{n N n' N':Nat}{d d':Int}(hP:PB P n N d)(hQ:PB Q n' N' d')(h0:0<=d)(h0':0<=d')(hd:d+d'<=65535)(hn0:n<=100000)(hn:n*n'+n'<=100000)(hN:n*(N+N'+1)+N+N'+1<=4398046511102):Abs Tryz.prog 56 [Bp P,Bp Q] (CK [Bp (Fz P Q),ex (.int .i64 0)]):=by
 have hPl:=hP.len
 have hQl:=hQ.len
 refine Ab Tryz.func56 λs0=>?_
 rw [Tryz.ntmps56]
 repeat (first | apply Aa | apply AWp.region | (apply A3K;refine EA (Ad rfl) (Ad rfl) rfl rfl rfl rfl rfl ?_) | (refine Cr rfl rfl ?_;(apply Ik;refine ⟨_,Fo (ao rfl),?_⟩)) | apply AWl.nil | apply Yn | apply AWp.block)
 refine AQ (λmz σ=>∃k,k<=P.length/\mz=P.length-k/\σ=⟨[(0,.d (Bp P)),(1,.d (Bp Q)),(6,.d (Bp (Ip [] (P.take k) Q))),(7,.d (ex (.int .i64 (k:Nat))))],[]⟩) ?le ⟨0,by omega,rfl,rfl⟩ ?round
 case le=>exact Ak (by repeat (first | exact FrLe.nil | refine Yd ?_ | refine FrLe.cons rfl (Ko rfl (D.le.refl _)) ?_)) (by repeat (exact HpLe.nil))
 case round=>
  rintro mz _ ⟨k,hk,rfl,rfl⟩
  by_cases hlt:k<P.length
  .have ht:=CY hlt
   have hm:=hP.ex _ ht
   have hb:=Ni hP hQ h0 h0' k
   have hbl:=hb.len
   have ht2:=Sk (t:=AZ P k) hQ (hP.can.2 _ ht) (hP.sz _ ht) hm
   have ht2l:=ht2.len
   repeat (first | apply Aa | apply AWp.region | (refine Cr rfl rfl ?_;first | (apply Lq;refine ⟨_,GY (ao rfl),?_⟩) | (apply ZU;refine ⟨_,JE rfl (Ad rfl),?_⟩) | (apply TF;refine ⟨_,UQ rfl (ao rfl) (ao rfl) (by first | (simp only [ER,List.length_cons,List.length_nil];omega) | (simp [ER];done) | (simp [ER];omega)),?_⟩)) | apply AWl.nil | apply Yn | apply AWp.block | apply Bw | (apply PZ;refine Ct ?_))
   refine Hc (DR (e:=14) (by kernel_rfl) (K4 (K4 (K4 (AddE.keep (AddE.keep (AddE.keep (AddE.add (AddE.keep AddE.nil)))))))) (by kernel_rfl)) [[],[],[(18,0),(19,1)],[(20,2)],[(21,3)],[],[],[(23,5),(24,6)],[(25,7)],[(26,8)],[],[(22,4),(27,9),(28,10)],[(29,11)],[(17,12)],[(17,12)]] [[],[],[0,1],[0,1,2],[0,1,2,3],[],[],[5,6],[5,6,7],[5,6,7,8],[],[0,1,2,3,4,5,6,7,8,9,10],[0,1,2,3,4,5,6,7,8,9,10,11],[0,1,2,3,4,5,6,7,8,9,10,11,12],[0,1,2,3,4,5,6,7,8,9,10,11,12]] rfl (by kernel_rfl) (by kernel_rfl) (by kernel_rfl) ?_
   repeat (first | refine ⟨_,rfl,?_⟩ | (apply A1o;(refine Xq (GY (ah rfl)) ?_)) | (apply A1p;first | (refine Xq (Oq (ah rfl) (Ad rfl) rfl rfl) ?_) | (refine Xq (ZM (ah rfl) (Ad rfl) rfl rfl) ?_)) | (apply PY;(refine Xq (UP (ah rfl) (Ad rfl) rfl (Ad rfl) rfl rfl) ?_)) | (apply PX;(refine Xq (DQ rfl (ah rfl) (Ad rfl) (Ad rfl) rfl (by first | omega | (simp;omega))) ?_)) | (apply A2P;(refine Xq (TA (ah rfl) rfl) ?_)) | (apply ZV;(refine Xq (Lo (ah rfl) (MQ (AZ P k).c (AZ P k).m Q N N' (hP.can.2 _ ht) (hP.sz _ ht) (hm.mono (Int.le_refl _) (by omega)) hQ.sz (hQ.ex.mono (Int.le_refl _) (by omega)) (λt h=>(Ll hm (hQ.ex t h)).mono (Int.le_refl _) hd) (by omega) (by omega)) (by first | ((repeat (first | exact ArgsLe.nil | refine ArgsLe.cons rfl (D.le.refl _) ?_ | refine ArgsLe.cons rfl DY ?_));done) | fail)) ?_)))
   repeat (first | apply Aa | apply AWp.region | (refine Cr rfl rfl ?_;first | (apply Lq;refine ⟨_,GY (ao rfl),?_⟩) | (apply Ik;refine ⟨_,Fo (ao rfl),?_⟩) | (apply A2N;refine ⟨_,UN (ao rfl) (ao rfl) (by omega),?_⟩) | (apply TF;refine ⟨_,PT rfl (ao rfl) (ao rfl) (by first | (simp only [ER,List.length_cons,List.length_nil];omega) | (simp [ER];done) | (simp [ER];omega)),?_⟩) | (apply RT;refine ⟨_,Lo (ao rfl) (MT (Ip [] (P.take k) Q) (Nr (AZ P k).c (AZ P k).m Q) (n*(N+N'+1)) (N+N') hb.sz ht2.sz (by omega) (by omega)) (by first | ((repeat (first | exact ArgsLe.nil | refine ArgsLe.cons rfl (D.le.refl _) ?_ | refine ArgsLe.cons rfl DY ?_));done) | fail),?_⟩)) | apply OnlyN.mk' | apply AWl.nil | apply Yn | apply Bw | apply Ah | (apply PZ;refine Cf ?_))
   refine ALoop.next (P.length-(k+1)) (by omega) ⟨k+1,by omega,rfl,rfl⟩ ?_
   exact Ak (by repeat (first | exact FrLe.nil | refine Yd ?_ | refine FrLe.cons rfl (AVle.le (Dq (SG hlt).symm)) ?_)) (by repeat (exact HpLe.nil))
  .obtain rfl:k=P.length:=by omega
   repeat (first | apply Aa | apply AWp.region | (refine Cr rfl rfl ?_;first | (apply Lq;refine ⟨_,GY (ao rfl),?_⟩) | (apply Ik;refine ⟨_,Fo (ao rfl),?_⟩) | (apply ZU;refine ⟨_,JE rfl (Ad rfl),?_⟩) | (apply TF;refine ⟨_,PT rfl (ao rfl) (ao rfl) (by first | (simp only [ER,List.length_cons,List.length_nil];omega) | (simp [ER];done) | (simp [ER];omega)),?_⟩)) | apply AWl.nil | apply Yn | apply AP | apply At | apply AA | apply AB | apply AF | (apply PZ;refine Cf ?_))
   exact Bf (BV (ResV.tmp rfl rfl) (ResV.tmp rfl rfl) (BM (Dq (by rw [List.take_length];rfl)) (D.le.refl _)))
theorem Tk{P Q:List Tm}{n N n' N':Nat}{d d':Int}(hP:PB P n N d)(hQ:PB Q n' N' d')(h0:0<=d)(h0':0<=d')(hd:d+d'<=65535)(hn0:n<=100000)(hn:n*n'+n'<=100000)(hN:n*(N+N'+1)+N+N'+1<=4398046511102):Abs Tryz.prog 22 [Bp P,Bp Q] (Bp (Fz P Q)):=by
 refine Ab Tryz.func22 λs0=>?_
 rw [Tryz.ntmps22]
 repeat (first | apply Aa | apply AWp.region | (refine Cr rfl rfl ?_;first | (apply Lq;refine ⟨_,GY (ao rfl),?_⟩) | (apply Ik;refine ⟨_,Fo (ao rfl),?_⟩) | (apply A2M;refine ⟨_,TA (ao rfl) rfl,?_⟩) | (apply RT;refine ⟨_,Lo (ao rfl) (ZA hP hQ h0 h0' hd hn0 hn hN) (by first | ((repeat (first | exact ArgsLe.nil | refine ArgsLe.cons rfl (D.le.refl _) ?_ | refine ArgsLe.cons rfl DY ?_));done) | fail),?_⟩)) | apply AWl.nil | apply Yn | apply At)
 exact Yf
theorem Abs.le{P:Program}{f:FuncId}{ds:List D}{r r':D}(h:Abs P f ds r)(hr:D.le r r'):Abs P f ds r':=
 ⟨h.1,λs vs h1 h2 h3=>(h.2 s vs h1 h2 h3).mono λe w' ⟨v,he,s',hw,hl,hv⟩=>⟨v,he,s',hw,hl,hr _ _ hv⟩⟩
theorem PV{P Q:List Tm}{n N n' N':Nat}{d d':Int}(hP:PB P n N d)(hQ:PB Q n' N' d')(h0:0<=d)(h0':0<=d')(hd:d+d'<=65535)(hn:n*n'<=100000)(hN:N+N'+1<=10000000):Abs Tryz.prog 47 [Bp P,Bp Q] (CK [Bp (Fz P Q),ex (.int .i64 0)]):=
 (ZP P Q N N' hP.sz hQ.sz d d' hP.ex hQ.ex hd h0 h0' (Nat.le_trans (Nat.mul_le_mul hP.len hQ.len) hn) hN).le λs v hv=>by
  obtain ⟨S,⟨h1,h2,_⟩,h3⟩:=hv
  have h3:(CK [Bp S,ex (.int .i64 0)]).rel s v:=h3
  rwa [QF h1 (hP.mul hQ h0 h0').can (h2.trans (LV P Q).symm)] at h3
theorem JH{P Q:List Tm}{n N n' N':Nat}{d d':Int}(hP:PB P n N d)(hQ:PB Q n' N' d')(hn:n+n'<=100000)(hN:N+N'+1<=4398046511104):Abs Tryz.prog 49 [Bp P,Bp Q] (Bp (CV P Q)):=
 ZQ P Q N N' hP.sz hQ.sz hN (Nat.le_trans (Nat.add_le_add hP.len hQ.len) hn)
theorem PI{P Q:List Tm}{n N n' N':Nat}{d d':Int}(hP:PB P n N d)(hQ:PB Q n' N' d')(hn:n+n'<=100000)(hN:N+N'+1<=4398046511103):Abs Tryz.prog 18 [Bp P,Bp Q] (Bp (CV P Q)):=
 MT P Q N N' hP.sz hQ.sz hN (Nat.le_trans (Nat.add_le_add hP.len hQ.len) hn)
theorem Qn{Q:List Tm}(hQ:Canon Q):SameL (Eu (-1:Int) Q) (neg Q):=by
 rw [Eu,if_neg (by decide)]
 induction Q with
 | nil=>trivial
 | cons t Q ih=>
  refine ⟨?_,λi _=>?_,ih ⟨(List.pairwise_cons.1 hQ.1).2,λu hu=>hQ.2 u (by simp [hu])⟩⟩
  .show ((-1:Int):Rat)*t.c = -t.c
   have:((-1:Int):Rat) = -1:=rfl
   rw [this];grind
  .show 0+t.m i=t.m i
   omega
theorem A1b{P Q:List Tm}{n N n' N':Nat}{d d':Int}(hP:PB P n N d)(hQ:PB Q n' N' d')(hd:d'<=65535)(hn:n+n'<=100000)(hN:N+N'+2<=4398046511103):Abs Tryz.prog 20 [Bp P,Bp Q] (Bp (A1Z P Q)):=by
 have hs:=Qn hQ.can
 have hc:=(hQ.neg.same hs.symm).can
 exact (Zz P Q N N' hP.sz hQ.sz (hQ.ex.mono (Int.le_refl _) hd) hN (Nat.le_trans (Nat.add_le_add hP.len hQ.len) hn)).le (Be (QF (Ey hP.can hc) (Ey hP.can hQ.neg.can) ((GL _ _).trans (((Sim.refl P).append hs.sim).trans (GL _ _).symm))))
theorem MR{P Q:List Tm}(h:SameL P Q):Abs Tryz.prog 14 [Bp P,Bp Q] (ex (.bool true)):=by
 have:=WS P Q
 rwa [IC.2 h] at this
theorem Ol{P Q:List Tm}(hP:Canon P)(hQ:Canon Q)(h:Sim P Q):Abs Tryz.prog 14 [Bp P,Bp Q] (ex (.bool true)):=MR (Ff hP hQ h)
theorem Ti{P:List Tm}{n N:Nat}{d:Int}(h:PB P n N d)(hd:d<=65535)(hN:N<=1000000000)(hn:n<=1000000):Abs Tryz.prog 10 [Bp P] (ex (.bool true)):=PH P N h.can (h.ex.mono (Int.le_refl _) hd) h.sz hN (Nat.le_trans h.len hn)
theorem TJ{P:Program}{s0:An}{n:Nat}{Q:Exit->AS->Prop}{c:Code}{fr:List (Nat×AV)}{hp hp':List Ow}{m:Nat}(t T sz:Nat)(h:CA fr t=some (.d (ex (.slice none 0 0))))(hT:T≠108)(h0:0<sz)(hm:Gz hp=some m)(hs:Eo hp (.row T sz [])=some hp')(k:AWp P s0 n c Q ⟨(t,.own m)::fr,hp'⟩):AWp P s0 n c Q ⟨fr,hp⟩:=by
 rw [DB hs] at k
 obtain rfl:=ED hm
 refine ⟨λa w ⟨s,ρ,hw,hst⟩=>?_⟩
 have hv:a.tmps.getD t undef = .slice none 0 0:=hst.fr t _ h
 have hlt:t<a.tmps.size:=by
  rcases Nat.lt_or_ge t a.tmps.size with h1 | h1
  .exact h1
  .simp [h1,undef] at hv
 have hg:a.tmps[t]? = some (.slice none 0 0):=by
  rw [Array.getD_eq_getD_getElem?,Array.getElem?_eq_getElem hlt] at hv
  rw [Array.getElem?_eq_getElem hlt]
  exact congrArg some hv
 have hput:a.put (some t) (.slice none 0 0)=a:=by
  unfold Act.put
  have:a.tmps.setIfInBounds t (.slice none 0 0)=a.tmps:=by
   apply Array.ext_getElem?
   intro i
   by_cases hi:t=i
   .subst hi;rw [hg];simp [hlt]
   .rw [Array.getElem?_setIfInBounds_ne hi]
  simp only [this]
 have := hst.new (GS.Le.refl s) (dst := some t) (v := .slice none 0 0) (u := .slice none 0 0) (r := .own hp.length) (ow := .row T sz []) (fun d hd => by cases hd; rw [← hst.sz]; exact hlt) ⟨Nat.lt_succ_self _, by simp⟩
  ⟨[],by simp only [if_pos];exact ⟨by simp,.inl ⟨rfl,rfl⟩⟩,hT,h0,λb hb=>by simp [DZ] at hb,λk hk=>absurd hk (Nat.not_lt_zero k)⟩ (λb hb=>by cases hb)
 rw [hput] at this
 exact k.run a w ⟨s,_,hw,this⟩
def Hu(lost:List Nat):Nat->List Value->List (Value×AV)
 | _,[]=>[]
 | i,v::vs=>bif lost.contains i then Hu lost (i+1) vs else (v,.own i)::Hu lost (i+1) vs
theorem JV(lost:List Nat)(i:Nat)(v:Value)(vs:List Value):Hu lost i (v::vs)=if i∈lost then Hu lost (i+1) vs else (v,.own i)::Hu lost (i+1) vs:=by
 show (bif lost.contains i then Hu lost (i+1) vs else (v,.own i)::Hu lost (i+1) vs)=_
 by_cases h:i∈lost
 .rw [if_pos h,List.contains_iff_mem.2 h];rfl
 .have : lost.contains i = false := by cases hb : lost.contains i with
   | true=>exact absurd (List.contains_iff_mem.1 hb) h
   | false=>rfl
  rw [if_neg h,this];rfl
theorem QH{lost:List Nat}:∀{vs:List Value} {i:Nat} {p:Value×AV},p∈Hu lost i vs->∃k,k<vs.length/\p=(vs.getD k undef,.own (i+k))
 | [],i,p,h=>by cases h
 | v::vs,i,p,h=>by
  rw [JV] at h
  have key:p∈Hu lost (i+1) vs->∃k,k<(v::vs).length/\p=((v::vs).getD k undef,.own (i+k)):=λh=>by
   obtain ⟨k,h1,h2⟩:=QH h
   exact ⟨k+1,by simpa using h1,by rw [h2,show i+1+k=i+(k+1) by omega];rfl⟩
  split at h
  .exact key h
  .rcases List.mem_cons.1 h with rfl | h
   .exact ⟨0,by simp,rfl⟩
   .exact key h
theorem QI{lost:List Nat}:∀{vs:List Value} {i k:Nat},k<vs.length->i+k∉lost->(vs.getD k undef,AV.own (i+k))∈Hu lost i vs
 | [],i,k,h,_=>by simp at h
 | v::vs,i,0,h,hl=>by
  rw [JV,if_neg (by simpa using hl)]
  exact List.mem_cons_self
 | v::vs,i,k+1,h,hl=>by
  have:=QI (lost:=lost) (vs:=vs) (i:=i+1) (k:=k) (by simpa using h) (by rwa [show i+1+k=i+(k+1) by omega])
  rw [show i+1+k=i+(k+1) by omega] at this
  rw [JV]
  split
  .exact this
  .exact List.mem_cons_of_mem _ this
def Hy(s:GS)(ρ:Nat->Value)(hp:List Ow)(b:Nat):Prop:=∃i o,hp[i]? = some o/\OwB s (ρ i) o b
def Sep(s:GS)(ρ:Nat->Value)(hp:List Ow):Prop:=∀i j o o',i≠j->hp[i]? = some o->hp[j]? = some o'->∀b,OwB s (ρ i) o b->¬OwB s (ρ j) o' b
structure Aft(s:GS)(ρ:Nat->Value)(hp:List Ow)(lost:List Nat)(s':GS)(ρ':Nat->Value)(hp':List Ow):Prop where
 le:GS.LeX (Hy s ρ hp) s s'
 ok:s'.Ok
 mem:HpOk 0 ρ' s' hp'
 sep:Sep s' ρ' hp'
 own:∀i o b,hp'[i]? = some o->OwB s' (ρ' i) o b->Hy s ρ hp b\/s.w.heap.size<=b
 kp:∀i,i<hp.length->i∉lost->ρ' i=ρ i
 len:hp.length<=hp'.length
def Con(P:Program)(f:FuncId)(args:List AV)(hp:List Ow)(lost:List Nat)(Q:AV->List Ow->Prop):Prop:=
 (∀args w,(callFunc f args).run P w = .ok (.enter f args) w)/\∀(s:GS) (ρ:Nat->Value) (vs:List Value),s.Ok->HpOk 0 ρ s hp->Sep s ρ hp->vs.length=args.length->(∀(k:Nat) av,args[k]? = some av->AVr hp.length ρ s av (vs.getD k undef)) ->
  Calls P f vs.toArray s.w λe w'=>∃v,e = .returned v/\∃(s':GS) (ρ':Nat->Value) (r:AV) (hp':List Ow),Q r hp'/\s'.w=w'/\AVr hp'.length ρ' s' r v/\Aft s ρ hp lost s' ρ' hp'
theorem Con.mono{P:Program}{f:FuncId}{args:List AV}{hp:List Ow}{lost:List Nat}{Q Q':AV->List Ow->Prop}(h:Con P f args hp lost Q)(hq:∀r hp',Q r hp'->Q' r hp'):Con P f args hp lost Q':=
 ⟨h.1,λs ρ vs h1 h2 h3 h4 h5=>(h.2 s ρ vs h1 h2 h3 h4 h5).mono λe w' ⟨v,he,s',ρ',r,hp',hQ,h6⟩=>⟨v,he,s',ρ',r,hp',hq r hp' hQ,h6⟩⟩
def GK:Nat->List AV->List (Nat×AV)
 | _,[]=>[]
 | i,d::ds=>(i,d)::GK (i+1) ds
theorem Jo:∀{ds:List AV} {i t:Nat} {av:AV},CA (GK i ds) t=some av->i<=t/\ds[t-i]? = some av
 | [],i,t,av,h=>by cases h
 | d::ds,i,t,av,h=>by
  unfold GK at h
  rw [DL] at h
  split at h
  .rename_i e
   subst e
   cases h
   exact ⟨Nat.le_refl _,by simp⟩
  .rename_i e
   obtain ⟨h1,h2⟩:=Jo h
   refine ⟨by omega,?_⟩
   rw [show t-i=(t-(i+1))+1 by omega]
   simpa using h2
structure RetsA(P:Program)(σ:AS)(rs:Array ResultVar)(r:AV):Prop where
 run:∀(base:Nat) (ρ:Nat->Value) (s:GS) (tmps:Array Value) (fn:Func),fn.results=rs->HpOk base ρ s σ.hp->(∀t av,CA σ.fr t=some av->AVr σ.hp.length ρ s av (tmps.getD t undef))->∃v,(results fn tmps).run P s.w = .ok v s.w/\AVr σ.hp.length ρ s r v
theorem RetsA.d{P:Program}{σ:AS}{rs:Array ResultVar}{r:D}(h:Rets P σ rs r):RetsA P σ rs (.d r):=⟨h.run⟩
theorem RetsA.one{P:Program}{σ:AS}{t:Nat}{r:AV}(h:CA σ.fr t=some r):RetsA P σ #[.tmp t] r:=⟨λ_ _ _ tmps _ hf _ hfr=>⟨_,NI hf (rv:=.tmp t) rfl,hfr t r h⟩⟩
theorem Te{P:Program}{σ:AS}:RetsA P σ #[] (.d Dp):=⟨λ_ _ s tmps fn hf _ _=>⟨.tuple #[],by unfold results;rw [hf];simp,trivial⟩⟩
structure FinC(P:Program)(fn:Func)(lost:List Nat)(vs:List Value)(Q:AV->List Ow->Prop)(e:Exit)(σ:AS):Prop where
 how:e = .ret\/e = .normal
 res:∃r hp',RetsA P σ fn.results r/\hp'=σ.hp.set vs.length .dead/\Q r hp'
 pin:σ.hp[vs.length]? = some (.pin (Hu lost 0 vs))
theorem IW{P:Program}{f:FuncId}{fn:Func}{c:Code}{args:List AV}{hp:List Ow}{lost:List Nat}{Q:AV->List Ow->Prop}(hf:P.funcs[f]? = some fn)(hb:fn.body=some c)(hcf:∀args w,(callFunc f args).run P w = .ok (.enter f args) w)(hn:Nat.ble args.length fn.ntmps=true)
  (h:∀(s0:An) (vs:List Value),vs.length=hp.length->AWp P s0 fn.ntmps c (FinC P fn lost vs Q) ⟨GK 0 args,hp++[.pin (Hu lost 0 vs)]⟩):Con P f args hp lost Q:=by
 refine ⟨hcf,λs ρ vs hok hhp hsep hl hv=>calls_of_wp hf hb ?_⟩
 have hn':args.length<=fn.ntmps:=by simpa [Nat.ble_eq] using hn
 have hpl:((List.range hp.length).map ρ).length=hp.length:=by simp
 have hlen:(hp++[Ow.pin (Hu lost 0 ((List.range hp.length).map ρ))]).length=hp.length+1:=by simp
 have hget:∀i o,(hp++[Ow.pin (Hu lost 0 ((List.range hp.length).map ρ))])[i]? = some o->hp[i]? = some o\/o=Ow.pin (Hu lost 0 ((List.range hp.length).map ρ)):=λi o hi=>by
  rw [List.getElem?_append] at hi
  split at hi
  .exact .inl hi
  .rename_i hge
   have:i-hp.length=0:=by
    have:=CD hi
    simp at this
    omega
   rw [this] at hi
   exact .inr (Option.some.inj hi).symm
 have Fd:∀k,k<hp.length->((List.range hp.length).map ρ).getD k undef=ρ k:=λk hk=>by
  rw [List.getD_eq_getElem?_getD,List.getElem?_map,List.getElem?_range hk]
  rfl
 refine wp_mono ((h ⟨s,Hy s ρ hp⟩ ((List.range hp.length).map ρ) hpl).run { tmps:=vs.toArray++Array.replicate (fn.ntmps-vs.toArray.size) undef,defers:=[] } s.w ⟨s,ρ,rfl,GS.LeX.refl _ s,hok,λt av ht=>?_,by simp;omega,rfl,λi o hi=>?_,λi j o o' hij hi hj b hbi hbj=>?_,λi o b hi hbi=>?_⟩) ?_
 .obtain ⟨_,h2⟩:=Jo ht
  rw [Nat.sub_zero] at h2
  have h3:t<args.length:=(List.getElem?_eq_some_iff.1 h2).1
  have h4:=hv t av h2
  have:(vs.toArray++Array.replicate (fn.ntmps-vs.toArray.size) undef).getD t undef=vs.getD t undef:=by
   rw [Array.getD_eq_getD_getElem?,Array.getElem?_append_left (by simp;omega)]
   simp
  show AVr (hp++[Ow.pin _]).length ρ s av ((vs.toArray++Array.replicate (fn.ntmps-vs.toArray.size) undef).getD t undef)
  rw [this,hlen]
  exact h4.mono (Nat.le_succ _) λ_ _=>rfl
 .show OwR 0 (hp++[Ow.pin _]).length ρ s i o
  rw [hlen]
  rcases hget i o hi with h1 | rfl
  .exact (hhp i o h1).mono (Nat.le_succ _) (λ_ _=>rfl) (CD h1)
  .intro p hp'
   obtain ⟨k,h1,rfl⟩:=QH hp'
   rw [hpl] at h1
   rw [Nat.zero_add]
   exact ⟨by omega,Fd k h1⟩
 .rcases hget i o hi with h1 | rfl
  .rcases hget j o' hj with h2 | rfl
   .exact hsep i j o o' hij h1 h2 b hbi hbj
   .exact hbj.elim
  .exact hbi.elim
 .rcases hget i o hi with h1 | rfl
  .exact .inl ⟨i,o,h1,hbi⟩
  .exact hbi.elim
 .intro e a w ⟨τ,⟨he,⟨r,hp',hR,hhp',hQ⟩,hpin⟩,s',ρ',hw,hst⟩
  subst hw
  subst hhp'
  rw [hpl] at hpin hQ
  obtain ⟨v,h1,h2⟩:=hR.run _ ρ' s' a.tmps fn rfl hst.hp hst.fr
  have hg:∀i o,(τ.hp.set hp.length .dead)[i]? = some o->o=Ow.dead\/τ.hp[i]? = some o:=λi o hi=>by
   rw [List.getElem?_set] at hi
   split at hi
   .split at hi
    .exact .inl (Option.some.inj hi).symm
    .cases hi
   .exact .inr hi
  have hfin:Aft s ρ hp lost s' ρ' (τ.hp.set hp.length .dead):=by
   refine ⟨hst.le,hst.ok,λi o hi=>?_,λi j o o' hij hi hj b hbi hbj=>?_,λi o b hi hbi=>?_,λi hi hnl=>?_,?_⟩
   .rw [List.length_set]
    rcases hg i o hi with rfl | h3
    .trivial
    .exact hst.hp i o h3
   .rcases hg i o hi with rfl | h3
    .exact hbi.elim
    .rcases hg j o' hj with rfl | h4
     .exact hbj.elim
     .exact hst.sep i j o o' hij h3 h4 b hbi hbj
   .rcases hg i o hi with rfl | h3
    .exact hbi.elim
    .exact hst.own i o b h3 hbi
   .have h3:=hst.hp _ _ hpin _ (QI (i:=0) (k:=i) (by rw [hpl]; exact hi) (by rw [Nat.zero_add]; exact hnl))
    rw [Fd i hi,Nat.zero_add] at h3
    exact h3.2.symm
   .rw [List.length_set]
    exact Nat.le_of_lt (CD hpin)
  have h2':AVr (τ.hp.set hp.length .dead).length ρ' s' r v:=by rw [List.length_set];exact h2
  rcases he with rfl | rfl
  .exact ⟨hst.df,v,h1,v,rfl,s',ρ',r,_,hQ,rfl,h2',hfin⟩
  .exact ⟨hst.df,v,h1,v,rfl,s',ρ',r,_,hQ,rfl,h2',hfin⟩
section
variable {P:Program} {f:FuncId} {fn:Func} {c:Code} {args:List AV} {Q:AV->List Ow->Prop} (hf:P.funcs[f]? = some fn) (hb:fn.body=some c) (hcf:∀args w,(callFunc f args).run P w = .ok (.enter f args) w) (hn:Nat.ble args.length fn.ntmps=true)
include hf hb hcf hn
theorem FL(h:∀(s0:An),AWp P s0 fn.ntmps c (FinC P fn [] [] Q) ⟨GK 0 args,[.pin []]⟩):Con P f args [] [] Q:=
 IW hf hb hcf hn λs0 vs hv=>by
  match vs,hv with
  | [],_=>exact h s0
theorem IX{o0:Ow}(h:∀(s0:An) (v0:Value),AWp P s0 fn.ntmps c (FinC P fn [] [v0] Q) ⟨GK 0 args,[o0,.pin [(v0,.own 0)]]⟩):Con P f args [o0] [] Q:=
 IW hf hb hcf hn λs0 vs hv=>by
  match vs,hv with
  | [v0],_=>exact h s0 v0
theorem Na{o0 o1:Ow}(h:∀(s0:An) (v0 v1:Value),AWp P s0 fn.ntmps c (FinC P fn [] [v0,v1] Q) ⟨GK 0 args,[o0,o1,.pin [(v0,.own 0),(v1,.own 1)]]⟩):Con P f args [o0,o1] [] Q:=
 IW hf hb hcf hn λs0 vs hv=>by
  match vs,hv with
  | [v0,v1],_=>exact h s0 v0 v1
end
theorem Et{P:Program}{fn:Func}{lost:List Nat}{vs:List Value}{Q:AV->List Ow->Prop}{σ:AS}{r:AV}{hp':List Ow}(h:RetsA P σ fn.results r)(hs:DI σ.hp vs.length .dead=some hp')(hQ:Q r hp')(hp:σ.hp[vs.length]? = some (.pin (Hu lost 0 vs))):FinC P fn lost vs Q .ret σ:=⟨.inl rfl,⟨r,hp',h,(CZ hs),hQ⟩,hp⟩
theorem RV{P:Program}{fn:Func}{lost:List Nat}{vs:List Value}{Q:AV->List Ow->Prop}{σ:AS}{r:AV}{hp':List Ow}(h:RetsA P σ fn.results r)(hs:DI σ.hp vs.length .dead=some hp')(hQ:Q r hp')(hp:σ.hp[vs.length]? = some (.pin (Hu lost 0 vs))):FinC P fn lost vs Q .normal σ:=⟨.inr rfl,⟨r,hp',h,(CZ hs),hQ⟩,hp⟩
def AV.ren(e:Nat->Nat):AV->AV
 | .d x=>.d x
 | .ptr i off=>.ptr (e i) off
 | .own i=>.own (e i)
 | .fn f caps=>.fn f (caps.map e)
def Ow.ren(e:Nat->Nat):Ow->Ow
 | .var T cells=>.var T (cells.map (AV.ren e))
 | .pin l=>.pin (l.map λp=>(p.1,p.2.ren e))
 | o=>o
def AV.below(m:Nat):AV->Bool
 | .d _=>true
 | .ptr i _=>Nat.blt i m
 | .own i=>Nat.blt i m
 | .fn _ caps=>caps.all (Nat.blt · m)
def Ow.below(m:Nat):Ow->Prop
 | .var _ cells=>∀av∈cells,av.below m=true
 | .pin l=>∀p∈l,p.2.below m=true
 | _=>True
theorem KS{hp:List Ow}{m:Nat}{av:AV}(h:av.below m=true):AVle hp m av av:=by
 cases av with
 | d x=>exact AVle.d rfl
 | ptr i off=>exact AVle.ptr h
 | own i=>exact AVle.own h
 | fn f caps=>exact Qd h
theorem BA{hp:List Ow}{m:Nat}{l:List (Value×AV)}(h:l.all (λp=>p.2.below m)=true):OwLe hp m (.pin l) (.pin l):=OwLe.pin λp hp=>KS (List.all_eq_true.1 h p hp)
theorem Ou{hp:List Ow}{m T:Nat}{c:List AV}(h:c.all (AV.below m)=true):OwLe hp m (.var T c) (.var T c):=OwLe.var rfl λk y hy=>⟨y,hy,KS (List.all_eq_true.1 h y (List.mem_of_getElem? hy))⟩
theorem Lp{s:GS}{v:Value}{e:Nat->Nat}{o:Ow}{b:Nat}:OwB s v (o.ren e) b↔OwB s v o b:=by cases o<;>exact Iff.rfl
theorem AVr.un{m m':Nat}{ρ ρ':Nat->Value}{e:Nat->Nat}{s:GS}{av:AV}{v:Value}(h:AVr m ρ s (av.ren e) v)(hb:av.below m'=true)(hρ:∀i,i<m'->ρ' i=ρ (e i)):AVr m' ρ' s av v:=by
 cases av with
 | d x=>exact h
 | ptr i off=>
  have hi:i<m':=by simpa [AV.below,Nat.blt_eq] using hb
  obtain ⟨h1,b,h2,h3⟩:=h
  exact ⟨hi,b,(hρ i hi).trans h2,h3⟩
 | own i=>
  have hi:i<m':=by simpa [AV.below,Nat.blt_eq] using hb
  exact ⟨hi,h.2.trans (hρ i hi).symm⟩
 | fn f caps=>
  have hi:∀i∈caps,i<m':=λi hi=>by
   have:=List.all_eq_true.1 hb i hi
   simpa [Nat.blt_eq] using this
  refine ⟨hi,?_⟩
  have h2:=h.2
  rw [List.map_map] at h2
  rw [h2]
  exact congrArg (λl=>Value.func (Fn.func f) #[] (List.toArray l)) (List.map_congr_left λi hm=>(hρ i (hi i hm)).symm)
theorem AVr.re{m m':Nat}{ρ ρ':Nat->Value}{e:Nat->Nat}{s:GS}{av:AV}{v:Value}(h:AVr m ρ s av v)(he:∀i,i<m->e i<m')(hρ:∀i,i<m->ρ' (e i)=ρ i):AVr m' ρ' s (av.ren e) v:=by
 cases av with
 | d x=>exact h
 | ptr i off=>
  obtain ⟨h1,b,h2,h3⟩:=h
  exact ⟨he i h1,b,(hρ i h1).trans h2,h3⟩
 | own i=>exact ⟨he i h.1,h.2.trans (hρ i h.1).symm⟩
 | fn f caps=>
  refine ⟨λi hi=>?_,?_⟩
  .obtain ⟨j,hj,rfl⟩:=List.mem_map.1 hi
   exact he j (h.1 j hj)
  .rw [List.map_map,h.2,List.map_congr_left λi hi=>(hρ i (h.1 i hi)).symm]
   rfl
theorem OwR.un{m m':Nat}{ρ ρ':Nat->Value}{e:Nat->Nat}{s:GS}{i:Nat}{o:Ow}(h:OwR 0 m ρ s (e i) (o.ren e))(hb:o.below m')(hi:i<m')(hρ:∀i,i<m'->ρ' i=ρ (e i)):OwR 0 m' ρ' s i o:=by
 cases o with
 | dead=>trivial
 | var T cells=>
  obtain ⟨b,cs,h1,h2,h3,h4,h5,h6,h7⟩:=h
  refine ⟨b,cs,(hρ i hi).trans h1,h2,h3,by simpa using h4,h5,h6,λk av hk=>?_⟩
  obtain ⟨u,h8,h9,h10⟩:=h7 k (av.ren e) (by rw [List.getElem?_map,hk];rfl)
  exact ⟨u,h8,h9,h10.un (hb av (List.mem_of_getElem? hk)) hρ⟩
 | row T sz rows=>
  replace h:OwR 0 m ρ s (e i) (.row T sz rows):=h
  unfold OwR at h ⊢
  rw [hρ i hi]
  exact h
 | obj O=>
  show O.rel s (ρ' i)
  rw [hρ i hi]
  exact h
 | pin l=>exact λp hp=>(h (p.1,p.2.ren e) (List.mem_map_of_mem (f:=λp:Value×AV=>(p.1,p.2.ren e)) hp)).un (hb p hp) hρ
theorem OwR.re{m m':Nat}{ρ ρ':Nat->Value}{e:Nat->Nat}{s:GS}{i:Nat}{o:Ow}(h:OwR 0 m ρ s i o)(hi:i<m)(he:∀i,i<m->e i<m')(hρ:∀i,i<m->ρ' (e i)=ρ i):OwR 0 m' ρ' s (e i) (o.ren e):=by
 cases o with
 | dead=>trivial
 | var T cells=>
  obtain ⟨b,cs,h1,h2,h3,h4,h5,h6,h7⟩:=h
  refine ⟨b,cs,(hρ i hi).trans h1,h2,h3,by simpa using h4,h5,h6,λk av hk=>?_⟩
  rw [List.getElem?_map] at hk
  cases hk0:cells[k]? with
  | none=>rw [hk0] at hk;cases hk
  | some av0=>
   rw [hk0] at hk
   cases hk
   obtain ⟨u,h8,h9,h10⟩:=h7 k av0 hk0
   exact ⟨u,h8,h9,h10.re he hρ⟩
 | row T sz rows=>
  show OwR 0 m' ρ' s (e i) (.row T sz rows)
  unfold OwR at h ⊢
  rw [hρ i hi]
  exact h
 | obj O=>
  show O.rel s (ρ' (e i))
  rw [hρ i hi]
  exact h
 | pin l=>
  intro p hp
  obtain ⟨q,hq,rfl⟩:=List.mem_map.1 hp
  exact (h q hq).re he hρ
def BN(sel:List Nat)(m k:Nat):Nat:=bif Nat.blt k sel.length then sel.getD k 0 else m+(k-sel.length)
theorem Dw{sel:List Nat}{m k:Nat}(h:k<sel.length):BN sel m k=sel.getD k 0:=by
 have:Nat.blt k sel.length=true:=by simpa [Nat.blt_eq] using h
 rw [BN,this];rfl
theorem GQ{sel:List Nat}{m k:Nat}(h:sel.length<=k):BN sel m k=m+(k-sel.length):=by
 have:Nat.blt k sel.length=false:=by cases hb:Nat.blt k sel.length<;>simp_all [Nat.blt_eq];omega
 rw [BN,this];rfl
def SelR(e:Nat->Nat)(H:List Ow)(m:Nat):List Nat->List Ow->Prop
 | [],[]=>True
 | j::js,o::os=>H[j]? = some (o.ren e)/\o.below m/\SelR e H m js os
 | _,_=>False
theorem SelR.get{e:Nat->Nat}{H:List Ow}{m:Nat}:∀{js:List Nat} {os:List Ow},SelR e H m js os->js.length=os.length/\∀(k:Nat) o,os[k]? = some o->H[js.getD k 0]? = some (o.ren e)/\o.below m
 | [],[],_=>⟨rfl,λk o h=>by cases h⟩
 | [],_::_,h=>h.elim
 | _::_,[],h=>h.elim
 | j::js,o::os,⟨h1,h2,h3⟩=>by
  obtain ⟨h4,h5⟩:=SelR.get h3
  refine ⟨by simp [h4],λk x hx=>?_⟩
  cases k with
  | zero=>cases hx;exact ⟨h1,h2⟩
  | succ k=>exact h5 k x (by simpa using hx)
def SetR(e:Nat->Nat):List Ow->List Nat->List Ow->List Ow->Prop
 | H,[],_,H'=>H=H'
 | H,j::js,o::os,H'=>SetR e (H.set j (o.ren e)) js os H'
 | _,_::_,[],_=>False
theorem SetR.get{e:Nat->Nat}:∀{js:List Nat} {H os H':List Ow},SetR e H js os H'->H'.length=H.length/\js.length<=os.length/\∀(i:Nat) x,H'[i]? = some x->(∃k o,k<js.length/\js.getD k 0=i/\os[k]? = some o/\x=o.ren e)\/(i∉js/\H[i]? = some x)
 | [],H,os,H',h=>by
  have h:H=H':=by cases os<;>exact h
  subst h
  exact ⟨rfl,Nat.zero_le _,λi x hx=>.inr ⟨by simp,hx⟩⟩
 | _::_,_,[],_,h=>h.elim
 | j::js,H,o::os,H',h=>by
  replace h:SetR e (H.set j (o.ren e)) js os H':=h
  obtain ⟨h1,h2,h3⟩:=SetR.get h
  refine ⟨by simpa using h1,by simp;omega,λi x hx=>?_⟩
  rcases h3 i x hx with ⟨k,o',h4,h5,h6,h7⟩ | ⟨h4,h5⟩
  .exact .inl ⟨k+1,o',by simp;omega,by simpa using h5,by simpa using h6,h7⟩
  .rw [List.getElem?_set] at h5
   split at h5
   .rename_i e1
    subst e1
    split at h5
    .exact .inl ⟨0,o,by simp,rfl,rfl,(Option.some.inj h5).symm⟩
    .cases h5
   .rename_i e1
    exact .inr ⟨by simp only [List.mem_cons,not_or];exact ⟨λe=>e1 e.symm,h4⟩,h5⟩
theorem NN{l:List Nat}(h:l.Nodup){i j:Nat}(hi:i<l.length)(hj:j<l.length)(e:l[i]=l[j]):i=j:=by
 rcases Nat.lt_trichotomy i j with h1 | h1 | h1
 .exact absurd e (List.pairwise_iff_getElem.1 h i j hi hj h1)
 .exact h1
 .exact absurd e.symm (List.pairwise_iff_getElem.1 h j i hj hi h1)
def AV.avoid(lost:List Nat):AV->Bool
 | .d _=>true
 | .ptr i _=>!lost.contains i
 | .own i=>!lost.contains i
 | .fn _ caps=>caps.all λi=>!lost.contains i
def Ow.avoid(lost:List Nat):Ow->Prop
 | .var _ cells=>∀av∈cells,av.avoid lost=true
 | .pin l=>∀p∈l,p.2.avoid lost=true
 | _=>True
theorem LZ{lost:List Nat}{i:Nat}(h:(!lost.contains i)=true):i∉lost:=λhm=>by
 rw [List.contains_iff_mem.2 hm] at h
 cases h
theorem AVr.kept{m m':Nat}{ρ ρ':Nat->Value}{s:GS}{av:AV}{v:Value}{lost:List Nat}(h:AVr m ρ s av v)(hm:m<=m')(ha:av.avoid lost=true)(hρ:∀i,i<m->i∉lost->ρ' i=ρ i):AVr m' ρ' s av v:=by
 cases av with
 | d x=>exact h
 | ptr i off=>
  obtain ⟨h1,b,h2,h3⟩:=h
  exact ⟨Nat.lt_of_lt_of_le h1 hm,b,(hρ i h1 (LZ ha)).trans h2,h3⟩
 | own i=>exact ⟨Nat.lt_of_lt_of_le h.1 hm,h.2.trans (hρ i h.1 (LZ ha)).symm⟩
 | fn f caps=>exact ⟨λi hi=>Nat.lt_of_lt_of_le (h.1 i hi) hm,by rw [h.2,List.map_congr_left λi hi=>(hρ i (h.1 i hi) (LZ (List.all_eq_true.1 ha i hi))).symm]⟩
theorem OwR.kept{m m':Nat}{ρ ρ':Nat->Value}{s:GS}{i:Nat}{o:Ow}{lost:List Nat}(h:OwR 0 m ρ s i o)(hm:m<=m')(ha:o.avoid lost)(hi:i<m)(hl:i∉lost)(hρ:∀i,i<m->i∉lost->ρ' i=ρ i):OwR 0 m' ρ' s i o:=by
 cases o with
 | dead=>trivial
 | var T cells=>
  obtain ⟨b,cs,h1,h2,h3,h4,h5,h6,h7⟩:=h
  refine ⟨b,cs,(hρ i hi hl).trans h1,h2,h3,h4,h5,h6,λk av hk=>?_⟩
  obtain ⟨u,h8,h9,h10⟩:=h7 k av hk
  exact ⟨u,h8,h9,h10.kept hm (ha av (List.mem_of_getElem? hk)) hρ⟩
 | row T sz rows=>
  unfold OwR at h ⊢
  rw [hρ i hi hl]
  exact h
 | obj O=>
  unfold OwR at h ⊢
  rw [hρ i hi hl]
  exact h
 | pin l=>exact λp hp=>(h p hp).kept hm (ha p hp) hρ
theorem A15{s0:An}{n:Nat}{σ:AS}{a:Act}{s s':GS}{ρ ρ':Nat->Value}{sel lost:List Nat}{hpS hp' H1:List Ow}(hav:(∀p∈σ.fr,p.2.avoid (lost.map (BN sel σ.hp.length))=true)/\∀i o,i∉sel->σ.hp[i]? = some o->o.avoid (lost.map (BN sel σ.hp.length)))(hll:∀k∈lost,k<sel.length)(h:StI s0 n σ a s ρ)(hnd:sel.Nodup)(hsel:SelR (BN sel σ.hp.length) σ.hp hpS.length sel hpS)
  (haft:Aft s (λk=>ρ (BN sel σ.hp.length k)) hpS lost s' ρ' hp') (hset:SetR (BN sel σ.hp.length) σ.hp sel hp' H1) :
  ∃ρ'',StI s0 n ⟨σ.fr,H1++(hp'.drop sel.length).map (Ow.ren (BN sel σ.hp.length))⟩ a s' ρ''/\∀av v,AVr hp'.length ρ' s' av v->AVr (H1++(hp'.drop sel.length).map (Ow.ren (BN sel σ.hp.length))).length ρ'' s' (av.ren (BN sel σ.hp.length)) v:=by
 obtain ⟨hl1,hl2⟩:=hsel.get
 obtain ⟨hl3,hl4,hl5⟩:=hset.get
 have hlen:(H1++(hp'.drop sel.length).map (Ow.ren (BN sel σ.hp.length))).length=σ.hp.length+(hp'.length-sel.length):=by simp [hl3]
 have hsl:∀k,k<sel.length->sel.getD k 0<σ.hp.length:=λk hk=>by
  have hk':k<hpS.length:=by omega
  exact CD (hl2 k _ (List.getElem?_eq_getElem hk')).1
 have hmem:∀k,k<sel.length->sel.getD k 0∈sel:=λk hk=>by
  rw [List.getD_eq_getElem?_getD,List.getElem?_eq_getElem hk]
  exact List.getElem_mem hk
 have hinj:∀j k,j<sel.length->k<sel.length->sel.getD j 0=sel.getD k 0->j=k:=λj k hj hk he=>by
  rw [List.getD_eq_getElem?_getD,List.getElem?_eq_getElem hj,List.getD_eq_getElem?_getD,List.getElem?_eq_getElem hk] at he
  exact NN hnd hj hk he
 have hpos:∀i,∃k,(∃k',k'<sel.length/\sel.getD k' 0=i)->k<sel.length/\sel.getD k 0=i:=λi=>by
  by_cases hx:∃k',k'<sel.length/\sel.getD k' 0=i
  .obtain ⟨k,hk⟩:=hx
   exact ⟨k,λ_=>hk⟩
  .exact ⟨0,λh=>absurd h hx⟩
 obtain ⟨pos,hpos⟩:∃pos:Nat->Nat,∀i,(∃k',k'<sel.length/\sel.getD k' 0=i)->pos i<sel.length/\sel.getD (pos i) 0=i:=⟨λi=>(hpos i).choose,λi=>(hpos i).choose_spec⟩
 let ρ2:Nat->Value:=λi=>if i<σ.hp.length then (if i∈sel then ρ' (pos i) else ρ i) else ρ' (i-σ.hp.length+sel.length)
 have hmem':∀i,i∈sel->∃k',k'<sel.length/\sel.getD k' 0=i:=λi hi=>by
  obtain ⟨k,hk⟩:=List.getElem?_of_mem hi
  have:=(List.getElem?_eq_some_iff.1 hk).1
  exact ⟨k,this,by rw [List.getD_eq_getElem?_getD,hk];rfl⟩
 have hρ2:∀i,i<hp'.length->ρ2 (BN sel σ.hp.length i)=ρ' i:=λi hi=>by
  rcases Nat.lt_or_ge i sel.length with h1 | h1
  .have h3:=hpos _ ⟨i,h1,rfl⟩
   rw [Dw h1]
   show (if sel.getD i 0<σ.hp.length then (if sel.getD i 0∈sel then ρ' (pos (sel.getD i 0)) else _) else _)=_
   rw [if_pos (hsl i h1),if_pos (hmem i h1),hinj _ _ h3.1 h1 h3.2]
  .rw [GQ h1]
   show (if _ then _ else ρ' (σ.hp.length+(i-sel.length)-σ.hp.length+sel.length))=_
   rw [if_neg (by omega)]
   congr 1
   omega
 have hρ3:∀i,i<σ.hp.length->i∉lost.map (BN sel σ.hp.length)->ρ2 i=ρ i:=λi hi hnl=>by
  show (if i<σ.hp.length then (if i∈sel then ρ' (pos i) else ρ i) else _)=_
  rw [if_pos hi]
  by_cases hx:i∈sel
  .rw [if_pos hx]
   obtain ⟨h1,h2⟩:=hpos i (hmem' i hx)
   have h3:pos i∉lost:=λhm=>hnl (List.mem_map.2 ⟨pos i,hm,by rw [Dw h1,h2]⟩)
   rw [haft.kp (pos i) (by omega) h3,Dw h1,h2]
  .rw [if_neg hx]
 have hlost:∀i,i∉sel->i∉lost.map (BN sel σ.hp.length):=λi hi hm=>by
  obtain ⟨k,h1,h2⟩:=List.mem_map.1 hm
  have h3:=hll k h1
  rw [Dw h3] at h2
  exact hi (by rw [<-h2];exact hmem k h3)
 have hel:∀i,i<hp'.length->BN sel σ.hp.length i<σ.hp.length+(hp'.length-sel.length):=λi hi=>by
  rcases Nat.lt_or_ge i sel.length with h1 | h1
  .rw [Dw h1]
   have:=hsl i h1
   omega
  .rw [GQ h1]
   omega
 have hei:∀i j,i<hp'.length->j<hp'.length->BN sel σ.hp.length i=BN sel σ.hp.length j->i=j:=λi j hi hj he=>by
  rcases Nat.lt_or_ge i sel.length with h1 | h1<;>rcases Nat.lt_or_ge j sel.length with h2 | h2
  .rw [Dw h1,Dw h2] at he
   exact hinj i j h1 h2 he
  .rw [Dw h1,GQ h2] at he
   have:=hsl i h1
   omega
  .rw [GQ h1,Dw h2] at he
   have:=hsl j h2
   omega
  .rw [GQ h1,GQ h2] at he
   omega
 have hget:∀i x,(H1++(hp'.drop sel.length).map (Ow.ren (BN sel σ.hp.length)))[i]? = some x->(∃k o,hp'[k]? = some o/\i=BN sel σ.hp.length k/\x=o.ren (BN sel σ.hp.length))\/(i<σ.hp.length/\i∉sel/\σ.hp[i]? = some x):=λi x hx=>by
  rw [List.getElem?_append] at hx
  split at hx
  .rename_i hlt
   rcases hl5 i x hx with ⟨k,o,h1,h2,h3,h4⟩ | ⟨h1,h2⟩
   .exact .inl ⟨k,o,h3,by rw [Dw h1];exact h2.symm,h4⟩
   .exact .inr ⟨by omega,h1,h2⟩
  .rename_i hge
   rw [List.getElem?_map,List.getElem?_drop] at hx
   cases hk:hp'[sel.length+(i-H1.length)]? with
   | none=>rw [hk] at hx;cases hx
   | some o=>
    rw [hk] at hx
    exact .inl ⟨_,o,hk,by rw [GQ (by omega)];omega,(Option.some.inj hx).symm⟩
 have hmine:∀b,Hy s (λk=>ρ (BN sel σ.hp.length k)) hpS b->∃k o,k<sel.length/\hpS[k]? = some o/\σ.hp[sel.getD k 0]? = some (o.ren (BN sel σ.hp.length))/\OwB s (ρ (sel.getD k 0)) (o.ren (BN sel σ.hp.length)) b:=λb ⟨k,o,h1,h2⟩=>by
  have hk:k<sel.length:=by have:=CD h1;omega
  replace h2:OwB s (ρ (BN sel σ.hp.length k)) o b:=h2
  rw [Dw hk] at h2
  exact ⟨k,o,hk,h1,(hl2 k o h1).1,Lp.2 h2⟩
 have hfar:∀i x,i∉sel->σ.hp[i]? = some x->∀b,OwB s (ρ i) x b->¬Hy s (λk=>ρ (BN sel σ.hp.length k)) hpS b:=λi x hi hx b hb hm=>by
  obtain ⟨k,o,h1,h2,h3,h4⟩:=hmine b hm
  exact h.sep i _ x _ (λe=>hi (by rw [e];exact hmem k h1)) hx h3 b hb h4
 have hsame:∀i x,i∉sel->σ.hp[i]? = some x->∀b,OwB s (ρ i) x b->s'.w.heap[b]? = s.w.heap[b]? /\ ∀k,s'.S b k↔s.S b k:=λi x hi hx b hb=>by
  have h1:=hfar i x hi hx b hb
  have h2:=(h.hp i x hx).blk_lt0 hb
  exact ⟨haft.le.block b h2 h1,λk=>⟨haft.le.old b k h2 h1,haft.le.chg.up b k⟩⟩
 have hback:∀i x,i<σ.hp.length->i∉sel->σ.hp[i]? = some x->∀b,OwB s' (ρ2 i) x b->OwB s (ρ i) x b:=λi x hlt hi hx b hb=>OwB.keep (h.hp i x hx) haft.le.chg (hsame i x hi hx) (by rw [<-hρ3 i hlt (hlost i hi)];exact hb)
 have hown:∀k o b,hp'[k]? = some o->OwB s' (ρ2 (BN sel σ.hp.length k)) (o.ren (BN sel σ.hp.length)) b->OwB s' (ρ' k) o b:=λk o b hk hb=>by
  rw [hρ2 k (CD hk)] at hb
  exact Lp.1 hb
 have hmx:∀b,Hy s (λk=>ρ (BN sel σ.hp.length k)) hpS b->s0.mine b\/s0.g.w.heap.size<=b:=λb hm=>by
  obtain ⟨k,o,h1,h2,h3,h4⟩:=hmine b hm
  exact h.own _ _ b h3 h4
 refine ⟨ρ2,⟨?_,haft.ok,λt av ht=>?_,h.sz,h.df,λi x hx=>?_,λi j x y hij hx hy b hbx hby=>?_,λi x b hx hb=>?_⟩,λav v hv=>?_⟩
 .refine ⟨haft.le.os.trans h.le.os,haft.le.tape.trans h.le.tape,haft.le.output.trans h.le.output,λk hk hm=>?_,h.le.chg.trans haft.le.chg,λb k hb hm hs=>?_,λb hb=>(haft.le.tag b (Nat.lt_of_lt_of_le hb h.le.size)).trans (h.le.tag b hb),λ_=>haft.ok⟩
  .have hn:¬Hy s (λk=>ρ (BN sel σ.hp.length k)) hpS k:=λhx=>(hmx k hx).elim hm λh'=>absurd hk (by omega)
   exact (haft.le.block k (Nat.lt_of_lt_of_le hk h.le.size) hn).trans (h.le.block k hk hm)
  .have hn:¬Hy s (λk=>ρ (BN sel σ.hp.length k)) hpS b:=λhx=>(hmx b hx).elim hm λh'=>absurd hb (by omega)
   exact h.le.old b k hb hm (haft.le.old b k (Nat.lt_of_lt_of_le hb h.le.size) hn hs)
 .show AVr (H1++_).length ρ2 s' av _
  rw [hlen]
  exact ((h.fr t av ht).chg haft.le.chg).kept (by omega) (hav.1 _ (Me ht)) hρ3
 .show OwR 0 (H1++_).length ρ2 s' i x
  rw [hlen]
  rcases hget i x hx with ⟨k,o,h1,rfl,rfl⟩ | ⟨h1,h2,h3⟩
  .exact (haft.mem k o h1).re (CD h1) hel hρ2
  .exact ((h.hp i x h3).keep haft.le.chg (hsame i x h2 h3)).kept (by omega) (hav.2 i x h2 h3) h1 (hlost i h2) hρ3
 .rcases hget i x hx with ⟨k,o,h1,rfl,rfl⟩ | ⟨h1,h2,h3⟩<;>rcases hget j y hy with ⟨k',o',h4,rfl,rfl⟩ | ⟨h4,h5,h6⟩
  .exact haft.sep k k' o o' (λe=>hij (by rw [e])) h1 h4 b (hown k o b h1 hbx) (hown k' o' b h4 hby)
  .have hb1:=hback j y h4 h5 h6 b hby
   rcases haft.own k o b h1 (hown k o b h1 hbx) with h7 | h7
   .exact hfar j y h5 h6 b hb1 h7
   .have:=(h.hp j y h6).blk_lt0 hb1
    omega
  .have hb1:=hback i x h1 h2 h3 b hbx
   rcases haft.own k' o' b h4 (hown k' o' b h4 hby) with h7 | h7
   .exact hfar i x h2 h3 b hb1 h7
   .have:=(h.hp i x h3).blk_lt0 hb1
    omega
  .exact h.sep i j x y hij h3 h6 b (hback i x h1 h2 h3 b hbx) (hback j y h4 h5 h6 b hby)
 .rcases hget i x hx with ⟨k,o,h1,rfl,rfl⟩ | ⟨h1,h2,h3⟩
  .rcases haft.own k o b h1 (hown k o b h1 hb) with h7 | h7
   .exact hmx b h7
   .exact .inr (Nat.le_trans h.le.size h7)
  .exact h.own i x b h3 (hback i x h1 h2 h3 b hb)
 .rw [hlen]
  exact hv.re hel hρ2
def A3M(hp:List Ow)(e:Nat->Nat)(m:Nat)(y a:AV):Prop:=(∃d d',a = .d d/\Ew hp y=some d'/\D.le d' d)\/(y=a.ren e/\a.below m=true)
def ArgsC(hp:List Ow)(e:Nat->Nat)(m:Nat)(arg:Operand->AV):List Operand->List AV->Prop
 | [],[]=>True
 | x::l,a::us=>A3M hp e m (arg x) a/\ArgsC hp e m arg l us
 | _,_=>False
theorem ArgsC.get{hp:List Ow}{e:Nat->Nat}{m:Nat}{arg:Operand->AV}:∀{l:List Operand} {us:List AV},ArgsC hp e m arg l us->l.length=us.length/\∀(k:Nat) a,us[k]? = some a->∃x,l[k]? = some x/\A3M hp e m (arg x) a
 | [],[],_=>⟨rfl,λk o h=>by cases h⟩
 | [],_::_,h=>h.elim
 | _::_,[],h=>h.elim
 | x::l,a::us,⟨h1,h2⟩=>by
  obtain ⟨h4,h5⟩:=ArgsC.get h2
  refine ⟨by simp [h4],λk y hy=>?_⟩
  cases k with
  | zero=>cases hy;exact ⟨x,rfl,h1⟩
  | succ k=>simpa using h5 k y (by simpa using hy)
theorem ArgsC.nil{hp:List Ow}{e:Nat->Nat}{m:Nat}{arg:Operand->AV}:ArgsC hp e m arg [] []:=trivial
theorem ArgsC.d{hp:List Ow}{e:Nat->Nat}{m:Nat}{arg:Operand->AV}{x:Operand}{l:List Operand}{us:List AV}{d d':D}(h:Ew hp (arg x)=some d')(hl:D.le d' d)(hr:ArgsC hp e m arg l us):ArgsC hp e m arg (x::l) (.d d::us):=⟨.inl ⟨d,d',rfl,h,hl⟩,hr⟩
theorem ZY{hp:List Ow}{e:Nat->Nat}{m:Nat}{arg:Operand->AV}{x:Operand}{l:List Operand}{us:List AV}{a:AV}(h:arg x=a.ren e)(hb:a.below m=true)(hr:ArgsC hp e m arg l us):ArgsC hp e m arg (x::l) (a::us):=⟨.inr ⟨h,hb⟩,hr⟩
theorem SelR.nil{e:Nat->Nat}{H:List Ow}{m:Nat}:SelR e H m [] []:=trivial
theorem SelR.var{e:Nat->Nat}{H:List Ow}{m j:Nat}{js:List Nat}{os:List Ow}{T:TypeId}{ds:List D}(h:H[j]? = some (.var T (ds.map .d)))(hr:SelR e H m js os):SelR e H m (j::js) (.var T (ds.map .d)::os):=
 ⟨by rw [h];simp only [Ow.ren,List.map_map];congr,λav hav=>by obtain ⟨d,_,rfl⟩:=List.mem_map.1 hav;rfl,hr⟩
theorem SelR.obj{e:Nat->Nat}{H:List Ow}{m j:Nat}{js:List Nat}{os:List Ow}{O:OD}(h:H[j]? = some (.obj O))(hr:SelR e H m js os):SelR e H m (j::js) (.obj O::os):=⟨h,trivial,hr⟩
theorem Zr{e:Nat->Nat}{H:List Ow}{m j T sz:Nat}{rows:List (List D)}{js:List Nat}{os:List Ow}(h:H[j]? = some (.row T sz rows))(hr:SelR e H m js os):SelR e H m (j::js) (.row T sz rows::os):=⟨h,trivial,hr⟩
theorem WI{e:Nat->Nat}{H:List Ow}{m j:Nat}{js:List Nat}{os:List Ow}{T:TypeId}{cells cells':List AV}(h:H[j]? = some (.var T cells'))(h2:cells'=cells.map (AV.ren e))(hb:cells.all (AV.below m)=true)(hr:SelR e H m js os):SelR e H m (j::js) (.var T cells::os):=⟨by rw [h,h2];rfl,List.all_eq_true.1 hb,hr⟩
def OwRen(e:Nat->Nat)(o o':Ow):Prop:=o'=o.ren e
theorem OwRen.dead{e:Nat->Nat}:OwRen e .dead .dead:=rfl
theorem MW{e:Nat->Nat}{T:TypeId}{ds:List D}:OwRen e (.var T (ds.map .d)) (.var T (ds.map .d)):=by simp only [OwRen,Ow.ren,List.map_map];congr
theorem OwRen.obj{e:Nat->Nat}{O:OD}:OwRen e (.obj O) (.obj O):=rfl
theorem Ot{e:Nat->Nat}{T sz:Nat}{rows:List (List D)}:OwRen e (.row T sz rows) (.row T sz rows):=rfl
def Qw(e:Nat->Nat):List AV->Option (List AV)
 | []=>some []
 | .d x::l=>match Qw e l with | some r=>some (.d x::r) | none=>none
 | .ptr i off::l=>match Qw e l with | some r=>some (.ptr (e i) off::r) | none=>none
 | .own i::l=>match Qw e l with | some r=>some (.own (e i)::r) | none=>none
 | .fn f caps::l=>match Qw e l with | some r=>some (.fn f (caps.map e)::r) | none=>none
theorem Ul{e:Nat->Nat}:∀{l r:List AV},Qw e l=some r->r=l.map (AV.ren e)
 | [],r,h=>by cases h;rfl
 | av::l,r,h=>by
  have key:∃r',Qw e l=some r'/\r=av.ren e::r':=by
   cases av<;>(unfold Qw at h;split at h<;>first | (cases h;done) | (rename_i r' h';cases h;exact ⟨r',h',rfl⟩))
  obtain ⟨r',h1,rfl⟩:=key
  rw [Ul h1]
  rfl
theorem MX{e:Nat->Nat}{T:TypeId}{c c':List AV}(h:Qw e c=some c'):OwRen e (.var T c) (.var T c'):=by rw [Ul h];rfl
theorem SetR.nil{e:Nat->Nat}{H os:List Ow}:SetR e H [] os H:=by cases os<;>rfl
theorem SetR.cons{e:Nat->Nat}{H H1 os H':List Ow}{o o':Ow}{j:Nat}{js:List Nat}(h:OwRen e o o')(hs:DI H j o'=some H1)(hr:SetR e H1 js os H'):SetR e H (j::js) (o::os) H':=by
 rw [CZ hs,h] at hr
 exact hr
def AppR(e:Nat->Nat)(H os H':List Ow):Prop:=H'=H++os.map (Ow.ren e)
theorem AppR.nil{e:Nat->Nat}{H:List Ow}:AppR e H [] H:=by simp [AppR]
theorem AppR.cons{e:Nat->Nat}{H H1 os H':List Ow}{o o':Ow}(h:OwRen e o o')(hs:Eo H o'=some H1)(hr:AppR e H1 os H'):AppR e H (o::os) H':=by
 rw [AppR,hr,DB hs,h]
 simp
def Mu:Nat->List Ow->List Ow
 | 0,l=>l
 | n+1,_::l=>Mu n l
 | _+1,[]=>[]
theorem Ra:∀(n:Nat) (l:List Ow),Mu n l=l.drop n
 | 0,l=>rfl
 | n+1,_::l=>Ra n l
 | _+1,[]=>rfl
def AVRen(e:Nat->Nat)(a a':AV):Prop:=a'=a.ren e
theorem AVRen.d{e:Nat->Nat}{x:D}:AVRen e (.d x) (.d x):=rfl
theorem AVRen.ptr{e:Nat->Nat}{i j off:Nat}(h:e i=j):AVRen e (.ptr i off) (.ptr j off):=by subst h;rfl
theorem AVRen.own{e:Nat->Nat}{i j:Nat}(h:e i=j):AVRen e (.own i) (.own j):=by subst h;rfl
theorem A05{e:Nat->Nat}{f:FuncId}{c c':List Nat}(h:c.map e=c'):AVRen e (.fn f c) (.fn f c'):=by subst h;rfl
def Qa(e:Nat->Nat)(m:Nat)(y:AV)(fid:FuncId)(caps:List Nat):Prop:=(y = .d (ex (.func (.func fid) #[] #[]))/\caps=[])\/(y = .fn fid (caps.map e)/\caps.all (Nat.blt · m)=true)
def CapsOk(hpS:List Ow):List Nat->Prop
 | []=>True
 | i::l=>(∃T cells,hpS[i]? = some (.var T cells))/\CapsOk hpS l
theorem CapsOk.get{hpS:List Ow}:∀{l:List Nat},CapsOk hpS l->∀i∈l,∃T cells,hpS[i]? = some (.var T cells)
 | [],_,i,hi=>by cases hi
 | j::l,⟨h1,h2⟩,i,hi=>by
  rcases List.mem_cons.1 hi with rfl | hi
  .exact h1
  .exact CapsOk.get h2 i hi
def AvoidR(sel lost:List Nat):Nat->List Ow->Prop
 | _,[]=>True
 | i,o::l=>(i∈sel\/o.avoid lost)/\AvoidR sel lost (i+1) l
theorem AvoidR.get{sel lost:List Nat}:∀{l:List Ow} {i:Nat},AvoidR sel lost i l->∀k o,i+k∉sel->l[k]? = some o->o.avoid lost
 | [],_,_,k,o,_,h=>by cases h
 | x::l,i,⟨h1,h2⟩,0,o,hn,h=>by
  cases h
  exact h1.resolve_left hn
 | x::l,i,⟨h1,h2⟩,k+1,o,hn,h=>AvoidR.get h2 k o (by rwa [show i+1+k=i+(k+1) by omega]) (by simpa using h)
section
variable {sel lost:List Nat} {i:Nat} {l:List Ow}
theorem AvoidR.nil:AvoidR sel lost i []:=trivial
theorem Sa{o:Ow}(h:sel.contains i=true)(hr:AvoidR sel lost (i+1) l):AvoidR sel lost i (o::l):=⟨.inl (List.contains_iff_mem.1 h),hr⟩
theorem AvoidR.dead(hr:AvoidR sel lost (i+1) l):AvoidR sel lost i (.dead::l):=⟨.inr trivial,hr⟩
theorem TH{T sz:Nat}{r:List (List D)}(hr:AvoidR sel lost (i+1) l):AvoidR sel lost i (.row T sz r::l):=⟨.inr trivial,hr⟩
theorem AvoidR.obj{O:OD}(hr:AvoidR sel lost (i+1) l):AvoidR sel lost i (.obj O::l):=⟨.inr trivial,hr⟩
theorem RY{T:TypeId}{ds:List D}(hr:AvoidR sel lost (i+1) l):AvoidR sel lost i (.var T (ds.map .d)::l):=⟨.inr λav hav=>by obtain ⟨d,_,rfl⟩:=List.mem_map.1 hav;rfl,hr⟩
theorem RZ{T:TypeId}{c:List AV}(h:c.all (AV.avoid lost)=true)(hr:AvoidR sel lost (i+1) l):AvoidR sel lost i (.var T c::l):=⟨.inr (List.all_eq_true.1 h),hr⟩
theorem AvoidR.pin{c:List (Value×AV)}(h:c.all (λp=>p.2.avoid lost)=true)(hr:AvoidR sel lost (i+1) l):AvoidR sel lost i (.pin c::l):=⟨.inr (List.all_eq_true.1 h),hr⟩
end
def LostOk(sel lost:List Nat)(m:Nat)(fr:List (Nat×AV))(hp:List Ow):Prop:=lost=[]\/(lost.all (Nat.blt · sel.length)=true/\fr.all (λp=>p.2.avoid (lost.map (BN sel m)))=true/\AvoidR sel (lost.map (BN sel m)) 0 hp)
theorem AV.avoid_nil(av:AV):av.avoid []=true:=by
 cases av with
 | fn f caps=>exact List.all_eq_true.2 λi _=>rfl
 | _=>rfl
theorem Ow.avoid_nil(o:Ow):o.avoid []:=by
 cases o with
 | var T c=>exact λav _=>av.avoid_nil
 | pin l=>exact λp _=>p.2.avoid_nil
 | _=>trivial
theorem LostOk.get{sel lost:List Nat}{m:Nat}{fr:List (Nat×AV)}{hp:List Ow}(h:LostOk sel lost m fr hp):((∀p∈fr,p.2.avoid (lost.map (BN sel m))=true)/\∀i o,i∉sel->hp[i]? = some o->o.avoid (lost.map (BN sel m)))/\∀k∈lost,k<sel.length:=by
 rcases h with rfl | ⟨h1,h2,h3⟩
 .exact ⟨⟨λp _=>p.2.avoid_nil,λi o _ _=>o.avoid_nil⟩,λk hk=>by cases hk⟩
 .exact ⟨⟨List.all_eq_true.1 h2,λi o hi ho=>h3.get i o (by rwa [Nat.zero_add]) ho⟩,λk hk=>by simpa [Nat.blt_eq] using List.all_eq_true.1 h1 k hk⟩
section
variable {P:Program} {s0:An} {n:Nat} {ops:Array Oper} {Q:Exit->AS->Prop} {rest:List Oper} {fr:List (Nat×AV)} {hp:List Ow}
theorem A2h{o:Oper}{f:Operand}{args:List Operand}{tys:Array TypeId}{fid:FuncId}{caps:List Nat}{us:List AV}{hpS:List Ow}{lost:List Nat}{QC:AV->List Ow->Prop}(hop:o.op = .call { callee:=.value f,args:=args.toArray,argTypes:=tys })(sel:List Nat){m:Nat}(hm:Gz hp=some m)(hf:Qa (BN sel m) hpS.length (AS.arg ⟨fr,hp⟩ f) fid caps)
  (hc:Con P fid (us++caps.map (.ptr · 0)) hpS lost QC) (hlo:LostOk sel lost m fr hp) (ha:ArgsC hp (BN sel m) hpS.length (AS.arg ⟨fr,hp⟩) args us) (hnd:sel.Nodup) (hsel:SelR (BN sel m) hp hpS.length sel hpS) (hcap:∀i∈caps,∃T cells,hpS[i]? = some (.var T cells)) (hd:UH o.dst n=true)
  (next:∀r hp',QC r hp'->∃r' H1 H',AVRen (BN sel m) r r'/\SetR (BN sel m) hp sel hp' H1/\AppR (BN sel m) H1 (Mu sel.length hp') H'/\AWl P s0 n ops Q rest (AS.put ⟨fr,H'⟩ o.dst r')) :
  ∀(s:GS) (ρ:Nat->Value) (a:Act),StI s0 n ⟨fr,hp⟩ a s ρ->∀K:Act->World->Prop,(∀σ' a' w',AWl P s0 n ops Q rest σ'->St s0 n σ' a' w'->K a' w')->o.wp P a s.w K (IH s0 n Q):=by
 intro s ρ a hst K hK
 obtain rfl:=ED hm
 obtain ⟨hl1,hl2⟩:=hsel.get
 obtain ⟨ha1,ha2⟩:=ha.get
 have hρc:∀i,i<hpS.length->(λk=>ρ (BN sel hp.length k)) i=ρ (BN sel hp.length i):=λ_ _=>rfl
 have hpos:∀k o',hpS[k]? = some o'->hp[BN sel hp.length k]? = some (o'.ren (BN sel hp.length)):=λk o' hk=>by
  rw [Dw (by have:=CD hk;omega)]
  exact (hl2 k o' hk).1
 have hhp:HpOk 0 (λk=>ρ (BN sel hp.length k)) s hpS:=λk o' hk=>(hst.hp _ _ (hpos k o' hk)).un (hl2 k o' hk).2 (CD hk) hρc
 have hsep:Sep s (λk=>ρ (BN sel hp.length k)) hpS:=λi j o1 o2 hij hi hj b hb hb'=>by
  refine hst.sep _ _ _ _ (λe=>hij ?_) (hpos i o1 hi) (hpos j o2 hj) b (Lp.2 hb) (Lp.2 hb')
  have h1:=CD hi
  have h2:=CD hj
  rw [Dw (by omega),Dw (by omega),List.getD_eq_getElem?_getD,List.getElem?_eq_getElem (by omega),List.getD_eq_getElem?_getD,List.getElem?_eq_getElem (by omega)] at e
  exact NN hnd _ _ e
 have hargs:∀(k:Nat) av,us[k]? = some av->AVr hpS.length (λk=>ρ (BN sel hp.length k)) s av ((args.map a.eval).getD k undef):=λk av hk=>by
  obtain ⟨x,h1,h2⟩:=ha2 k av hk
  have h3:=hst.arg x
  have h4:(args.map a.eval).getD k undef=a.eval x:=by rw [List.getD_eq_getElem?_getD,List.getElem?_map,h1];rfl
  rw [h4]
  rcases h2 with ⟨d,d',rfl,h5,h6⟩ | ⟨h5,h6⟩
  .exact h6 s _ (CQ hst.hp h3 h5)
  .rw [h5] at h3
   exact h3.un h6 hρc
 have hcall:(execOp a.eval o).run P s.w = .ok (.enter fid (args.map a.eval++caps.map λi=>ρ (BN sel hp.length i)).toArray) s.w:=by
  have h3:=hst.arg f
  rcases hf with ⟨h4,rfl⟩ | ⟨h4,h5⟩
  .rw [h4] at h3
   have e1:a.eval f = .func (.func fid) #[] #[]:=h3
   simp [execOp,hop,resolve,e1,Deferred.ofValue,invoke,hc.1]
  .rw [h4] at h3
   have e1:a.eval f = .func (.func fid) #[] ((caps.map (BN sel hp.length)).map ρ).toArray:=h3.2
   rw [List.map_map] at e1
   simp [execOp,hop,resolve,e1,Deferred.ofValue,invoke,hc.1]
 have hvs:∀(k:Nat) av,(us++caps.map (AV.ptr · 0))[k]? = some av->AVr hpS.length (λk=>ρ (BN sel hp.length k)) s av ((args.map a.eval++caps.map λi=>ρ (BN sel hp.length i)).getD k undef):=λk av hk=>by
  rw [List.getElem?_append] at hk
  rw [List.getD_eq_getElem?_getD,List.getElem?_append]
  split at hk
  .rename_i hlt
   rw [if_pos (by simp;omega),<-List.getD_eq_getElem?_getD]
   exact hargs k av hk
  .rename_i hge
   rw [if_neg (by simp;omega),List.getElem?_map]
   rw [List.getElem?_map] at hk
   simp only [List.length_map,ha1]
   cases hi:caps[k-us.length]? with
   | none=>rw [hi] at hk;cases hk
   | some i=>
    rw [hi] at hk
    cases hk
    obtain ⟨T,cells,h1⟩:=hcap i (List.mem_of_getElem? hi)
    obtain ⟨b,cs,h2,_⟩:=hhp i _ h1
    exact ⟨CD h1,b,h2,h2⟩
 have h4:=hc.2 s (λk=>ρ (BN sel hp.length k)) (args.map a.eval++caps.map λi=>ρ (BN sel hp.length i)) hst.ok hhp hsep (by simp [ha1]) hvs
 have hns:Cd o.op=true:=by rw [hop];rfl
 refine RegG.opStep_wp (R:=λv s'=>∃(ρ':Nat->Value) (r:AV) (hp':List Ow),QC r hp'/\AVr hp'.length ρ' s' r v/\Aft s (λk=>ρ (BN sel hp.length k)) hpS lost s' ρ' hp') hns (λ_ _=>rfl) ?_ ?_
 .unfold RegG.OpStep
  rw [hcall]
  exact h4.mono λe w' ⟨v,he,s',ρ',r,hp',h5,h6,h7,h8⟩=>⟨v,he,s',h6,ρ',r,hp',h5,h7,h8⟩
 .rintro v s' ⟨ρ',r,hp',h5,h6,h7⟩
  obtain ⟨r',H1,H',h8,h9,h10,h11⟩:=next r hp' h5
  replace h8:r'=r.ren (BN sel hp.length):=h8
  rw [AppR,Ra] at h10
  subst h8;subst h10
  obtain ⟨ρ'',h12,h13⟩:=A15 (sel:=sel) (hpS:=hpS) hlo.get.1 hlo.get.2 hst hnd hsel h7 h9
  exact hK _ _ _ h11 ⟨s',ρ'',rfl,h12.put (GS.Le.refl s') (IM hd) (h13 r v h6)⟩
theorem A1t{ty:TypeId}{ps:String}{af:Array Edge}{t:Nat}{f:Operand}{args:List Operand}{tys:Array TypeId}{fid:FuncId}{all:List AV}{hpS:List Ow}{lost:List Nat}{QC:AV->List Ow->Prop}(sel:List Nat)(caps:List Nat){m:Nat}(hc:Con P fid all hpS lost QC)(hlo:LostOk sel lost m fr hp)(hall:all=all.take args.length++caps.map (.ptr · 0))(hm:Gz hp=some m)(hf:Qa (BN sel m) hpS.length (AS.arg ⟨fr,hp⟩ f) fid caps)
  (ha:ArgsC hp (BN sel m) hpS.length (AS.arg ⟨fr,hp⟩) args (all.take args.length)) (hnd:sel.Nodup) (hsel:SelR (BN sel m) hp hpS.length sel hpS) (hcap:CapsOk hpS caps) (hd:Nat.blt t n=true)
  (next:∀r hp',QC r hp'->∃r' H1 H',AVRen (BN sel m) r r'/\SetR (BN sel m) hp sel hp' H1/\AppR (BN sel m) H1 (Mu sel.length hp') H'/\AWl P s0 n ops Q rest ⟨(t,r')::fr,H'⟩) :
  AWl P s0 n ops Q (⟨some t,.call { callee:=.value f,args:=args.toArray,argTypes:=tys },ty,ps,af,none⟩::rest) ⟨fr,hp⟩:=by
 rw [hall] at hc
 exact AWl.step rfl (A2h rfl sel hm hf hc hlo ha hnd hsel hcap.get hd next)
end
end Go.Proofs.YtnbfnoebjjdmnaaGreat
set_option linter.unusedSimpArgs false
set_option linter.unusedVariables false
namespace Go.Proofs.YtnbfnoebjjdmnaaGreat
open Go.RowKit
section
variable {P:Program} {s0:An} {n:Nat} {ops:Array Oper} {Q:Exit->AS->Prop} {rest:List Oper} {fr:List (Nat×AV)} {hp:List Ow}
theorem Kk{ty:TypeId}{ps:String}{af:Array Edge}{t:Nat}{f:Operand}{args:List Operand}{tys:Array TypeId}{fid:FuncId}{all:List AV}{hpS:List Ow}{lost:List Nat}{QC:AV->List Ow->Prop}(sel:List Nat)(caps:List Nat){m:Nat}(hc:Con P fid all hpS lost QC)
  (next:∀r hp',QC r hp'->∃r' H1 H',AVRen (BN sel m) r r'/\SetR (BN sel m) hp sel hp' H1/\AppR (BN sel m) H1 (Mu sel.length hp') H'/\AWl P s0 n ops Q rest ⟨(t,r')::fr,H'⟩)
  (hm:Gz hp=some m:=by exact rfl) (hall:all=all.take args.length++caps.map (.ptr · 0):=by exact rfl) (hlo:LostOk sel lost m fr hp:=by first | exact Or.inl rfl | exact Or.inr ⟨by decide,rfl,by repeat (first | exact AvoidR.nil | refine Sa rfl ?_ | refine AvoidR.dead ?_ | refine TH ?_ | refine AvoidR.obj ?_ | refine RY ?_ | refine RZ rfl ?_ | refine AvoidR.pin rfl ?_)⟩) (hf:Qa (BN sel m) hpS.length (AS.arg ⟨fr,hp⟩ f) fid caps:=by first | exact .inl ⟨rfl,rfl⟩ | exact .inr ⟨rfl,rfl⟩)
  (ha:ArgsC hp (BN sel m) hpS.length (AS.arg ⟨fr,hp⟩) args (all.take args.length):=by repeat (first | exact ArgsC.nil | refine ArgsC.d rfl (D.le.refl _) ?_ | refine ZY rfl rfl ?_)) (hnd:sel.Nodup:=by decide) (hsel:SelR (BN sel m) hp hpS.length sel hpS:=by repeat (first | exact SelR.nil | refine SelR.var rfl ?_ | refine SelR.obj rfl ?_ | refine Zr rfl ?_ | refine WI rfl rfl rfl ?_)) (hcap:CapsOk hpS caps:=by repeat (first | exact trivial | refine ⟨⟨_,_,rfl⟩,?_⟩)) (hd:Nat.blt t n=true:=by exact rfl) :
  AWl P s0 n ops Q (⟨some t,.call { callee:=.value f,args:=args.toArray,argTypes:=tys },ty,ps,af,none⟩::rest) ⟨fr,hp⟩:=A1t sel caps hc hlo hall hm hf ha hnd hsel hcap hd next
theorem Kr{t m:Nat}{sel:List Nat}{r r':AV}{hp' H1 H':List Ow}(h:AWl P s0 n ops Q rest ⟨(t,r')::fr,H'⟩)(h1:AVRen (BN sel m) r r':=by first | exact AVRen.d | exact AVRen.own rfl | exact AVRen.ptr rfl | exact A05 rfl)(h2:SetR (BN sel m) hp sel hp' H1:=by repeat (first | exact SetR.nil | (apply SetR.cons;(first | exact OwRen.dead | exact MW | exact OwRen.obj | exact Ot | exact MX rfl);exact rfl)))(h3:AppR (BN sel m) H1 (Mu sel.length hp') H':=by repeat (first | exact AppR.nil | (apply AppR.cons;(first | exact OwRen.dead | exact MW | exact OwRen.obj | exact Ot | exact MX rfl);exact rfl))):∃r' H1 H',AVRen (BN sel m) r r'/\SetR (BN sel m) hp sel hp' H1/\AppR (BN sel m) H1 (Mu sel.length hp') H'/\AWl P s0 n ops Q rest ⟨(t,r')::fr,H'⟩:=⟨_,_,_,h1,h2,h3,h⟩
end
open Go.ChangeMaps (setBlock)
section
variable {P:Program} {hp:List Ow} {o:Oper} {arg:Operand->AV}
end
section
variable {hp:List Ow} {o:Oper} {arg:Operand->AV}
theorem To{P:Program}{f:FuncId}{caps:List Operand}{ids:List Nat}(hop:o.op = .makeFunc (.func f) #[] caps.toArray)(h:caps.map arg=ids.map (AV.ptr · 0)):Quiet P hp o arg (.fn f ids):=by
 refine ⟨λbase s ρ ev hok hbs hhp hv=>?_⟩
 have h1:∀(l:List Operand) (js:List Nat),(∀x∈l,x∈caps)->l.map arg=js.map (AV.ptr · 0)->(∀i∈js,i<hp.length)/\l.map ev=js.map ρ:=by
  intro l
  induction l with
  | nil=>intro js _ h;cases js with
   | nil=>exact ⟨λi hi=>by (cases hi),rfl⟩
   | cons=>simp at h
  | cons x l ih=>intro js hm h;cases js with
   | nil=>simp at h
   | cons j js=>
    simp only [List.map_cons,List.cons.injEq] at h
    obtain ⟨h2,h3⟩:=ih js (λy hy=>hm y (List.mem_cons_of_mem _ hy)) h.2
    have h4:=hv x (by rw [hop];simp [Op.operands,hm x List.mem_cons_self])
    rw [h.1] at h4
    obtain ⟨h5,b,h6,h7⟩:=h4
    refine ⟨λi hi=>?_,?_⟩
    .rcases List.mem_cons.1 hi with rfl | hi
     .exact h5
     .exact h2 i hi
    .rw [List.map_cons,List.map_cons,h3,h7,h6]
 obtain ⟨h2,h3⟩:=h1 caps ids (λ_ h=>h) h
 refine BO (v:=.func (.func f) #[] (ids.map ρ).toArray) (by simp [execOp,hop,Instr.makeFunc,h3]) ⟨GS.Le.refl s,h2,rfl⟩
end
section
variable {s0:An} {n:Nat} {ops:Array Oper} {Q:Exit->AS->Prop} {rest:List Oper} {fr:List (Nat×AV)} {hp:List Ow} {ty:TypeId} {ps:String} {af:Array Edge} {gd:Option (Nat×Bool)} {dd:Option Tmp}
theorem A1d{P:Program}{arg:Operand->AV}{f:FuncId}{caps:List Operand}(ids:List Nat)(h:caps.map arg=ids.map (AV.ptr · 0)):Quiet P hp ⟨dd,.makeFunc (.func f) #[] caps.toArray,ty,ps,af,gd⟩ arg (.fn f ids):=To rfl h
end
def DownR(id:Nat)(x:D):List Ow->List Ow->Prop
 | [],[]=>True
 | o::l,o'::l'=>o'=o.mapA (down id x)/\DownR id x l l'
 | _,_=>False
section
variable {id:Nat} {x:D} {l l':List Ow}
theorem DownR.nil:DownR id x [] []:=trivial
theorem DownR.row{T sz:Nat}{r:List (List D)}(h:DownR id x l l'):DownR id x (.row T sz r::l) (.row T sz r::l'):=⟨rfl,h⟩
theorem DownR.obj{O:OD}(h:DownR id x l l'):DownR id x (.obj O::l) (.obj O::l'):=⟨rfl,h⟩
theorem DownR.dead(h:DownR id x l l'):DownR id x (.dead::l) (.dead::l'):=⟨rfl,h⟩
theorem DownR.pin{c:List (Value×AV)}(hc:Ea id (c.map (·.2))=true)(h:DownR id x l l'):DownR id x (.pin c::l) (.pin c::l'):=⟨by simp only [Ow.mapA,LW hc],h⟩
def HM(id:Nat)(x:D):List AV->Option (List AV)
 | []=>some []
 | .own j::l=>match HM id x l with
  | some r=>bif Nat.beq j id then some (.d x::r) else some (.own j::r)
  | none=>none
 | .d y::l=>match HM id x l with
  | some r=>some (.d y::r)
  | none=>none
 | .ptr i off::l=>match HM id x l with
  | some r=>some (.ptr i off::r)
  | none=>none
 | .fn f c::l=>match HM id x l with
  | some r=>bif c.contains id then some (.d Dp::r) else some (.fn f c::r)
  | none=>none
theorem Rc:∀{c c':List AV},HM id x c=some c'->c'=c.map (down id x)
 | [],c',h=>by cases h;rfl
 | av::c,c',h=>by
  have key:∃r',HM id x c=some r'/\c'=down id x av::r':=by
   cases av with
   | d y=>unfold HM at h;split at h<;>first | (cases h;done) | (rename_i r' h';cases h;exact ⟨r',h',rfl⟩)
   | ptr i o=>unfold HM at h;split at h<;>first | (cases h;done) | (rename_i r' h';cases h;exact ⟨r',h',rfl⟩)
   | own j=>
    unfold HM at h
    split at h
    .rename_i r' h'
     refine ⟨r',h',?_⟩
     cases hb:Nat.beq j id with
     | true=>rw [hb] at h;cases h;simp only [down,hb];rfl
     | false=>rw [hb] at h;cases h;simp only [down,hb];rfl
    .cases h
   | fn f cp=>
    unfold HM at h
    split at h
    .rename_i r' h'
     refine ⟨r',h',?_⟩
     cases hb:cp.contains id with
     | true=>rw [hb] at h;cases h;simp only [down,hb];rfl
     | false=>rw [hb] at h;cases h;simp only [down,hb];rfl
    .cases h
  obtain ⟨r',h1,rfl⟩:=key
  rw [Rc h1]
  rfl
theorem A2S{T:TypeId}{c c':List AV}(hc:HM id x c=some c')(h:DownR id x l l'):DownR id x (.var T c::l) (.var T c'::l'):=⟨by rw [Rc hc];rfl,h⟩
end
section
variable {P:Program} {s0:An} {n:Nat} {ops:Array Oper} {Q:Exit->AS->Prop} {rest:List Oper} {fr:List (Nat×AV)} {hp:List Ow} {ty:TypeId} {ps:String} {af:Array Edge}
theorem Rb{m id:Nat}{ρ:Nat->Value}{s s':GS}{v':Value}{x:D}(hold:x.rel s (ρ id))(hc:GS.Chg s s')(hnp:∀a,ρ id ≠ .pointer a):∀av v,AVr m ρ s av v->AVr m (λi=>if i=id then v' else ρ i) s' (down id x av) v:=by
 intro av v hav
 cases av with
 | d x=>exact x.st hav hc
 | ptr i off=>
  obtain ⟨p1,bb,p2,p3⟩:=hav
  refine ⟨p1,bb,?_,p3⟩
  show (if i=id then v' else ρ i)=_
  by_cases e:i=id
  .subst e;exact absurd p2 (hnp _)
  .rw [if_neg e];exact p2
 | own j=>
  obtain ⟨p1,p2⟩:=hav
  show AVr m _ s' (bif Nat.beq j id then .d x else .own j) v
  cases hb:Nat.beq j id with
  | true=>
   have e:j=id:=Nat.eq_of_beq_eq_true hb
   subst e
   rw [p2]
   exact x.st hold hc
  | false=>
   have e:j≠id:=Nat.ne_of_beq_eq_false hb
   exact ⟨p1,p2.trans (if_neg e).symm⟩
 | fn f caps=>
  obtain ⟨p1,p2⟩:=hav
  show AVr m _ s' (bif caps.contains id then .d Dp else .fn f caps) v
  cases hb:caps.contains id with
  | true=>trivial
  | false=>
   have hn:id∉caps:=λh=>by rw [List.contains_iff_mem.2 h] at hb;cases hb
   exact ⟨p1,by rw [p2,List.map_congr_left λi hi=>(if_neg λe=>hn (by rw [<-e];exact hi):(if i=id then v' else ρ i)=ρ i)]⟩
end
structure HE where
 b:Nat
 T:TypeId
 ds:List D
def HB(s:GS)(e:HE):Prop:=e.T≠108/\(∀k,¬s.S e.b k)/\∃cs:Array Value,s.w.heap[e.b]? = some (.cells cs e.T (0,0))/\e.ds.length<=cs.size/\∀k,k<e.ds.length->∃u,cs[k]? = some u/\u.oneCell'=true/\(Cj e.ds k).rel s u
theorem HB.lt{s:GS}{e:HE}(h:HB s e):e.b<s.w.heap.size:=by
 obtain ⟨_,_,cs,h1,_⟩:=h
 exact AU h1
theorem HB.keep{s s':GS}{e:HE}(h:HB s e)(hc:GS.Chg s s')(hb:s'.w.heap[e.b]? = s.w.heap[e.b]? /\ ∀k,s'.S e.b k↔s.S e.b k):HB s' e:=by
 obtain ⟨h1,h2,cs,h3,h4,h5⟩:=h
 refine ⟨h1,λk hk=>h2 k ((hb.2 k).1 hk),cs,hb.1.trans h3,h4,λk hk=>?_⟩
 obtain ⟨u,h6,h7,h8⟩:=h5 k hk
 exact ⟨u,h6,h7,(Cj e.ds k).st h8 hc⟩
def Bj(L:List HE):OD where
 rel s _:=(∀e∈L,HB s e)/\(L.map (·.b)).Nodup
 blk _ _ b:=∃e,e∈L/\e.b=b
 lt:=λ⟨h,_⟩ ⟨e,he,hb⟩=>hb▸(h e he).lt
 keep:=λ⟨h,h'⟩ hc hb=>⟨⟨λe he=>(h e he).keep hc (hb e.b ⟨e,he,rfl⟩),h'⟩,λ_ hx=>hx⟩
theorem DM{L:List HE}{s:GS}{v:Value}(h:(Bj L).rel s v):(∀e∈L,HB s e)/\(L.map (·.b)).Nodup:=h
abbrev pX(b off:Nat):D:=ex (.pointer (some ⟨b,off,none⟩))
abbrev sX(b len cap:Nat):D:=ex (.slice (some ⟨b,0,none⟩) len cap)
section
variable {P:Program} {hp:List Ow} {arg:Operand->AV} {dd:Option Tmp} {ty:TypeId} {ps:String} {af:Array Edge} {gd:Option (Nat×Bool)}
theorem WW{o:Oper}{x:Operand}{t:TypeId}{d:TypeDesc}{n b id i off:Nat}{z:Value}{L:List HE}{e:HE}{es:List D}(hop:o.op = .load t x)(hx:arg x = .d (pX e.b off))(hh:hp[id]? = some (.obj (Bj L)))(hi:L[i]? = some e)(ht:Tab P t d n b z)(hd:Ec d=true)(hc:PartAt e.ds off n es):Quiet P hp o arg (.d (BF es)):=by
 refine ⟨λbase s ρ ev hok hbs hhp h=>?_⟩
 have h1:=h x (by rw [hop];simp [Op.operands])
 rw [hx] at h1
 have e1:ev x = .pointer (some ⟨e.b,off,none⟩):=h1
 obtain ⟨h2,_⟩:=DM (hhp id _ hh)
 obtain ⟨_,_,cs,h3,h4,h5⟩:=h2 e (List.mem_of_getElem? hi)
 have hle:=hc.le
 have hcell:∀j,j<n->∃u,s.w.cell? ⟨e.b,off+j,none⟩=some u/\u.oneCell'=true/\(Cj es j).rel s u:=λj hj=>by
  obtain ⟨u,h6,h7,h8⟩:=h5 (off+j) (by omega)
  refine ⟨u,(BK h3).trans h6,h7,?_⟩
  have:Cj es j=Cj e.ds (off+j):=by
   rw [<-hc.eq,MA hj]
   simp [Cj,List.getElem?_drop]
  rw [this]
  exact h8
 obtain ⟨f,hf⟩:∃f:Nat->Value,∀j,j<n->s.w.cell? ⟨e.b,off+j,none⟩=some (f j)/\(f j).oneCell'=true/\(Cj es j).rel s (f j):=by
  refine ⟨λj=>if hj:j<n then (hcell j hj).choose else undef,λj hj=>?_⟩
  simp only [dif_pos hj]
  exact (hcell j hj).choose_spec
 have hr:=FV ht hd e.b off f λj hj=>(hf j hj).1
 have hel:es.length=n:=by rw [<-hc.eq,List.length_take,List.length_drop];omega
 refine BO (v:=.agg ((List.range n).map f).toArray) ?_ ⟨GS.Le.refl s,_,rfl,by simp;omega,λk hk=>?_⟩
 .simp [execOp,hop,e1,Instr.loadAt,Instr.sureAddr,hr]
 .have hkn:k<n:=by omega
  exact ⟨f k,by simp [hkn],(hf k hkn).2⟩
theorem Tq{o:Oper}{x:Operand}{t:TypeId}{d:TypeDesc}{n b id i off:Nat}{z:Value}{L:List HE}{e:HE}{u:D}(hop:o.op = .load t x)(hx:arg x = .d (pX e.b off))(hh:hp[id]? = some (.obj (Bj L)))(hi:L[i]? = some e)(ht:Tab P t d n b z)(hd:Ec d=false)(hc:CellAt e.ds off u):Quiet P hp o arg (.d u):=by
 refine ⟨λbase s ρ ev hok hbs hhp h=>?_⟩
 have h1:=h x (by rw [hop];simp [Op.operands])
 rw [hx] at h1
 have e1:ev x = .pointer (some ⟨e.b,off,none⟩):=h1
 obtain ⟨h2,_⟩:=DM (hhp id _ hh)
 obtain ⟨_,_,cs,h3,h4,h5⟩:=h2 e (List.mem_of_getElem? hi)
 obtain ⟨v,h6,h7,h8⟩:=h5 off hc.lt
 rw [hc.eq] at h8
 have hcell:s.w.cell? ⟨e.b,off,none⟩=some v:=(BK h3).trans h6
 refine BO (v:=v) ?_ ⟨GS.Le.refl s,h8⟩
 simp [execOp,hop,e1,Instr.loadAt,Instr.sureAddr,loadVar,ht.run_agg,hd,hcell]
theorem Du{x:Operand}{t:TypeId}{d:TypeDesc}{n b off:Nat}{z:Value}{L:List HE}{e:HE}{es:List D}(id i:Nat)(hx:arg x = .d (pX e.b off))(hh:hp[id]? = some (.obj (Bj L)))(hi:L[i]? = some e)(ht:Tab P t d n b z)(hd:Ec d=true)(hc:PartAt e.ds off n es):Quiet P hp ⟨dd,.load t x,ty,ps,af,gd⟩ arg (.d (BF es)):=WW rfl hx hh hi ht hd hc
theorem Dy{x:Operand}{t:TypeId}{d:TypeDesc}{n b off:Nat}{z:Value}{L:List HE}{e:HE}{u:D}(id i:Nat)(hx:arg x = .d (pX e.b off))(hh:hp[id]? = some (.obj (Bj L)))(hi:L[i]? = some e)(ht:Tab P t d n b z)(hd:Ec d=false)(hc:CellAt e.ds off u):Quiet P hp ⟨dd,.load t x,ty,ps,af,gd⟩ arg (.d u):=Tq rfl hx hh hi ht hd hc
end
theorem YB{L:List HE}(h:(L.map (·.b)).Nodup){i j:Nat}{e e':HE}(hi:L[i]? = some e)(hj:L[j]? = some e')(hb:e.b=e'.b):i=j:=by
 obtain ⟨h1,h2⟩:=List.getElem?_eq_some_iff.1 hi
 obtain ⟨h3,h4⟩:=List.getElem?_eq_some_iff.1 hj
 have:=List.pairwise_iff_getElem.1 h
 rcases Nat.lt_trichotomy i j with hl | hl | hl
 .have hij:=this i j (by simpa using h1) (by simpa using h3) hl
  rw [List.getElem_map,List.getElem_map,h2,h4] at hij
  exact absurd hb hij
 .exact hl
 .have hij:=this j i (by simpa using h3) (by simpa using h1) hl
  rw [List.getElem_map,List.getElem_map,h2,h4] at hij
  exact absurd hb.symm hij
section
variable {P:Program} {s0:An} {n:Nat} {ops:Array Oper} {Q:Exit->AS->Prop} {rest:List Oper} {fr:List (Nat×AV)} {hp hp':List Ow} {ty:TypeId} {ps:String} {af:Array Edge}
theorem Mg{id i:Nat}{L:List HE}{e:HE}{s:GS}{ρ:Nat->Value}{act:Act}(hst:StI s0 n ⟨fr,hp⟩ act s ρ)(hid:hp[id]? = some (.obj (Bj L)))(hi:L[i]? = some e){W:World}{cs':Array Value}{ds':List D}
  (hos:W.os=s.w.os) (htp:W.tape=s.w.tape) (hop:W.output=s.w.output) (hsz:W.heap.size=s.w.heap.size) (hfar:∀b,b≠e.b->W.heap[b]? = s.w.heap[b]?) (hnew:W.heap[e.b]? = some (.cells cs' e.T (0,0))) (hl:ds'.length<=cs'.size)
  (hds:∀k,k<ds'.length->∃u,cs'[k]? = some u/\u.oneCell'=true/\(Cj ds' k).rel s u) (hs:DI hp id (.obj (Bj (L.set i ⟨e.b,e.T,ds'⟩)))=some hp'):StI s0 n ⟨fr,hp'⟩ act { s with w:=W } ρ:=by
 obtain ⟨h1,hnd⟩:=DM (hst.hp id _ hid)
 have hem:=List.mem_of_getElem? hi
 obtain ⟨hT,hS,cs,h2,h3,h4⟩:=h1 e hem
 have hok : GS.Ok { s with w := W } := IV hst.ok (fun _ _ h => h) (by show _ ≤ W.heap.size; omega) (fun _ _ h => h) fun b ⟨c, fz, hb⟩ => by
  by_cases e1:b=e.b
  .have hb:W.heap[b]? = _:=hb
   rw [e1,hnew] at hb
   exact absurd (Obj.cells.inj (Option.some.inj hb)).2.1 hT
  .exact ⟨c,fz,(hfar b e1).symm.trans hb⟩
 have hc : GS.Chg s { s with w := W } := ⟨by show _ ≤ W.heap.size; omega, fun _ _ h => h, fun b c T fz hb => by
  by_cases e1:b=e.b
  .rw [e1,h2] at hb
   cases hb
   exact ⟨_,_,by rw [e1];exact hnew,λk hk=>absurd (e1▸hk) (hS k)⟩
  .exact ⟨c,fz,(hfar b e1).trans hb,λ_ _=>rfl⟩⟩
 have hbs:(L.set i ⟨e.b,e.T,ds'⟩).map (·.b)=L.map (·.b):=by
  rw [List.map_set]
  apply List.ext_getElem?
  intro j
  rw [List.getElem?_set]
  split
  .rename_i hij
   subst hij
   rw [List.getElem?_map,hi]
   split
   .rfl
   .rename_i hlt
    exact absurd (by simpa using (List.getElem?_eq_some_iff.1 hi).1) hlt
  .rfl
 have hst':=hst.upd (s':={ s with w:=W }) (ρ':=ρ) (f:=λx=>x) (o':=.obj (Bj (L.set i ⟨e.b,e.T,ds'⟩))) (hst.le.turn (hst.own id _ e.b hid ⟨e,hem,rfl⟩) hos htp hop (λb _ hb=>⟨hfar b hb,λ_ h=>h⟩) hc (λ_ _=>rfl) λ_=>hok) hok hc hid
  (λb _ hb=>⟨hfar b λe1=>hb ⟨e,hem,e1.symm⟩,λ_=>Iff.rfl⟩) (λ_ _=>rfl)
  (by
   refine ⟨λx hx=>?_,by rw [hbs];exact hnd⟩
   obtain ⟨j,hj⟩:=List.mem_iff_getElem?.1 hx
   rw [List.getElem?_set] at hj
   split at hj
   .rename_i hij
    split at hj
    .cases hj
     exact ⟨hT,hS,cs',hnew,hl,λk hk=>by
      obtain ⟨u,g1,g2,g3⟩:=hds k hk
      exact ⟨u,g1,g2,(Cj ds' k).st g3 hc⟩⟩
    .cases hj
   .rename_i hij
    refine (h1 x (List.mem_of_getElem? hj)).keep hc ⟨hfar x.b λhb=>hij (YB hnd hi hj hb.symm),λ_=>Iff.rfl⟩)
  (λb hb=>.inl (by
   obtain ⟨x,hx,rfl⟩:=hb
   have:x.b∈(L.set i ⟨e.b,e.T,ds'⟩).map (·.b):=List.mem_map_of_mem hx
   rw [hbs] at this
   obtain ⟨y,hy,e1⟩:=List.mem_map.1 this
   exact ⟨y,hy,e1⟩)) λav v h=>h.chg hc
 rw [Hz,Fl,<-CZ hs] at hst'
 exact hst'
end
theorem Wy{cs:Array Value}{vs:List Value}{off:Nat}(h:off+vs.length<=cs.size)(k:Nat):(cs.toList.take off++vs++cs.toList.drop (off+vs.length)).toArray[k]? = if off<=k/\k<off+vs.length then vs[k-off]? else cs[k]?:=by
 rw [List.getElem?_toArray,List.append_assoc,List.getElem?_append]
 have hl1:(cs.toList.take off).length=off:=by simp;omega
 rw [hl1]
 split
 .rename_i hlt
  rw [if_neg (by omega),List.getElem?_take,if_pos hlt]
  simp
 .rename_i hge
  rw [List.getElem?_append]
  split
  .rename_i hlt
   rw [if_pos (by omega)]
  .rename_i hge2
   rw [if_neg (by omega),List.getElem?_drop]
   simp only [Array.getElem?_toList]
   congr 1
   omega
section
variable {P:Program} {s0:An} {n:Nat} {ops:Array Oper} {Q:Exit->AS->Prop} {rest:List Oper} {fr:List (Nat×AV)} {hp hp':List Ow} {ty:TypeId} {ps:String} {af:Array Edge}
theorem EH{T:TypeId}{d:TypeDesc}{b m off:Nat}{z:Value}{x y:Operand}{L:List HE}{e:HE}{es ds':List D}(id i:Nat)(hx:AS.arg ⟨fr,hp⟩ x = .d (pX e.b off))(hy:AS.arg ⟨fr,hp⟩ y = .d (BF es))(hh:hp[id]? = some (.obj (Bj L)))(hi:L[i]? = some e)(ht:Tab P T d m b z)(hm:es.length=m)(hc:SetAt e.ds off es ds')(hs:DI hp id (.obj (Bj (L.set i ⟨e.b,e.T,ds'⟩)))=some hp')
  (h:AWl P s0 n ops Q rest ⟨fr,hp'⟩):AWl P s0 n ops Q (⟨none,.store T x y,ty,ps,af,none⟩::rest) ⟨fr,hp⟩:=by
 refine AWl.step rfl λs ρ a hst K hK=>?_
 have hx':=hst.arg x
 have hy':=hst.arg y
 rw [hx] at hx';rw [hy] at hy'
 have e1:a.eval x = .pointer (some ⟨e.b,off,none⟩):=hx'
 obtain ⟨h1,-⟩:=DM (hst.hp id _ hh)
 obtain ⟨hT,hS,cs,h4,h5,h6⟩:=h1 e (List.mem_of_getElem? hi)
 obtain ⟨vs,e2,hv1,hv2⟩:=hy'
 have hle:=hc.le
 have hvone:∀v∈vs.toList,v.oneCell'=true:=λv hv=>by
  obtain ⟨k,hk,rfl⟩:=List.getElem_of_mem hv
  simp at hk
  obtain ⟨u,h9,h10,_⟩:=hv2 k (by omega)
  rw [Array.getElem?_eq_getElem hk] at h9
  cases h9
  simpa using h10
 have hvl:vs.toList.length=m:=by simp [hv1,hm]
 have hst1:=run_storeCells_at P e.b off e.T vs.toList 0 cs s.w h4 (by omega) hvone
 simp only [Nat.add_zero] at hst1
 obtain ⟨W,hW⟩:∃W,W=s.w.setRow e.b (cs.toList.take off++vs.toList++cs.toList.drop (off+vs.toList.length)).toArray:=⟨_,rfl⟩
 rw [<-hW] at hst1
 have hrun:(execOp a.eval ⟨none,.store T x y,ty,ps,af,none⟩).run P s.w = .ok .skip W:=by
  simp [execOp,e1,e2,Instr.storeAt,Instr.sureAddr,storeVar,Value.cells,hv1,hm,ht.run_size,hst1]
 unfold Oper.wp
 rw [hrun]
 have hnew:W.heap[e.b]? = some (.cells (cs.toList.take off++vs.toList++cs.toList.drop (off+vs.toList.length)).toArray e.T (0,0)):=by rw [hW];exact setRow_heap s.w e.b cs _ e.T _ h4
 have hfin := Mg hst hh hi (W := W) (ds' := ds') (by rw [hW]; rfl) (by rw [hW]; rfl) (by rw [hW]; rfl) (by rw [hW]; simp [World.setRow]) (fun b hb => by rw [hW]; exact setRow_other s.w e.b b _ (fun e => hb e)) hnew
  (by rw [← hc.eq, DA hle]; simp; omega) (fun k hk => by
   rw [<-hc.eq,DA hle] at hk
   rw [Wy (by omega),<-hc.eq,Sp hle]
   by_cases hr:off<=k/\k<off+es.length
   .rw [if_pos (by omega), if_pos hr]
    obtain ⟨u,g1,g2,g3⟩:=hv2 (k-off) (by omega)
    exact ⟨u,by simpa using g1,g2,g3⟩
   .rw [if_neg (by omega), if_neg hr]
    exact h6 k hk) hs
 exact hK _ _ _ h ⟨_,ρ,rfl,hfin⟩
theorem A00{T:TypeId}{d:TypeDesc}{b off:Nat}{z:Value}{x y:Operand}{L:List HE}{e:HE}{u:D}{ds':List D}(id i:Nat)(hx:AS.arg ⟨fr,hp⟩ x = .d (pX e.b off))(hy:AS.arg ⟨fr,hp⟩ y = .d u)(hh:hp[id]? = some (.obj (Bj L)))(hi:L[i]? = some e)(ht:Tab P T d 1 b z)(h1:One hp (.d u))(hc:SetAt e.ds off [u] ds')(hs:DI hp id (.obj (Bj (L.set i ⟨e.b,e.T,ds'⟩)))=some hp')
  (h:AWl P s0 n ops Q rest ⟨fr,hp'⟩):AWl P s0 n ops Q (⟨none,.store T x y,ty,ps,af,none⟩::rest) ⟨fr,hp⟩:=by
 refine AWl.step rfl λs ρ a hst K hK=>?_
 have hx':=hst.arg x
 have hy':=hst.arg y
 rw [hx] at hx';rw [hy] at hy'
 have e1:a.eval x = .pointer (some ⟨e.b,off,none⟩):=hx'
 obtain ⟨g1,-⟩:=DM (hst.hp id _ hh)
 obtain ⟨hT,hS,cs,h4,h5,h6⟩:=g1 e (List.mem_of_getElem? hi)
 have hle:=hc.le
 simp only [List.length_cons,List.length_nil] at hle
 have hv1:=h1 _ _ _ _ hst.hp hy'
 have hcell:s.w.cell? ⟨e.b,off,none⟩=some (cs[off]'(by omega)):=(BK h4).trans (Array.getElem?_eq_getElem _)
 have hfz:s.w.frozen? ⟨e.b,off,none⟩=false:=Blk.frozen h4 off
 have hvc:(a.eval y).cells=#[a.eval y]:=by cases hv:a.eval y<;>first | rfl | (rw [hv] at hv1;cases hv1)
 have hrun:(execOp a.eval ⟨none,.store T x y,ty,ps,af,none⟩).run P s.w = .ok .skip (s.w.setCell ⟨e.b,off,none⟩ (a.eval y)):=by
  have h9:(store ⟨e.b,off,none⟩ (a.eval y)).run P s.w = .ok () (s.w.setCell ⟨e.b,off,none⟩ (a.eval y)):=by
   cases hv:a.eval y<;>first | (rw [hv] at hv1;cases hv1;done) | simp [store,Sem.run,hcell,hfz]
  simp [execOp,e1,Instr.storeAt,Instr.sureAddr,storeVar,hvc,ht.run_size,storeCells,Addr.add_lit,h9]
 unfold Oper.wp
 rw [hrun]
 have hfin := Mg hst hh hi (W := s.w.setCell ⟨e.b, off, none⟩ (a.eval y)) (ds' := ds') rfl rfl rfl (by simp [World.setCell]) (fun b hb => Below.heap_setCell _ _ _ _ hb) (Blk.set h4 off _)
  (by rw [← hc.eq, DA hc.le]; simp; omega) (fun k hk => by
   rw [<-hc.eq,DA hc.le] at hk
   rw [<-hc.eq,Sp hc.le]
   by_cases hr:off<=k/\k<off+1
   .obtain rfl:k=off:=by omega
    rw [if_pos (by simp)]
    have hko:k<cs.size:=by omega
    refine ⟨a.eval y,by simp [hko],hv1,?_⟩
    rw [Nat.sub_self]
    exact hy'
   .rw [if_neg (by simpa using hr), Array.getElem?_setIfInBounds_ne (by omega)]
    exact h6 k hk) hs
 exact hK _ _ _ h ⟨_,ρ,rfl,hfin⟩
theorem UV{t T m b bytes c k e:Nat}{z z':Value}{d:TypeDesc}{x y:Operand}{hpf:Nat->List Ow}(hx:AS.arg ⟨fr,hp⟩ x = .d (ex (.int .i64 (c:Nat))))(hy:AS.arg ⟨fr,hp⟩ y = .d (ex (.int .i64 (c:Nat))))(ht:Tab P t (.slice T) m b z')(hT:Tab P T d 1 bytes z)(hz:z.cells=#[z])(hz1:z.oneCell'=true)(hc:c<=1000000)(hbytes:Nat.ble bytes 65536=true)(hT32:Nat.beq T 108=false)(hd:Nat.blt e n=true)(hk:Gz hp=some k)(hs:∀g,Eo hp (.obj (Bj [⟨g,T,List.replicate c (ex z)⟩]))=some (hpf g))
  (h:∀g,AWl P s0 n ops Q rest ⟨(e,.d (sX g c c))::fr,hpf g⟩):AWl P s0 n ops Q (⟨some e,.makeSlice t x y,ty,ps,af,none⟩::rest) ⟨fr,hp⟩:=by
 refine AWl.step rfl λs ρ a hst K hK=>?_
 have e1:a.eval x = .int .i64 (c:Nat):=St.exD hx ⟨s,ρ,rfl,hst⟩
 have e2:a.eval y = .int .i64 (c:Nat):=St.exD hy ⟨s,ρ,rfl,hst⟩
 obtain ⟨i,hi,hz0,hsize,hby⟩:=hT.info
 have hbytes:=Nat.le_of_ble_eq_true hbytes
 have hT32':=Nat.ne_of_beq_eq_false hT32
 obtain rfl:=ED hk
 have wc:IntKind.i64.wrap ((c:Nat):Int)=c:=IntWalk.i64_in _ (by omega)
 have hprod:bytes*c<=65536*1000000:=Nat.mul_le_mul hbytes hc
 have hprod':((bytes:Int)*(c:Int))<=281474976710656:=by
  have:((bytes*c:Nat):Int)<=((65536*1000000:Nat):Int):=Int.ofNat_le.2 hprod
  rw [Int.natCast_mul] at this
  omega
 have hroom:c*bytes<=roomBytes:=by
  rw [Nat.mul_comm]
  have:roomBytes=140737488355328:=rfl
  omega
 obtain ⟨arr,harr,harr2,hrun⟩:∃arr:Array Value,arr.size=c/\(∀k,k<c->arr[k]? = some z)/\(execOp a.eval ⟨some e,.makeSlice t x y,ty,ps,af,none⟩).run P s.w = .ok (.value (.slice (some ⟨s.w.heap.size,0,none⟩) c c)) (s.w.alloc (.cells arr T)):=by
  have hn:∀arr,(newRow T arr).run P s.w = .ok ⟨s.w.heap.size,0,none⟩ (s.w.alloc (.cells arr T)):=λ_=>rfl
  have h281:¬(281474976710656<(bytes:Int)*(c:Int)):=by omega
  have hroom':¬(roomBytes<c*bytes):=by omega
  have hkn:¬((c:Int)<0):=by omega
  by_cases hk0:c=0
  .subst hk0
   refine ⟨(Array.range 0).map (λj=>(#[]:Array Value)[j%0]!),by simp,λk hk=>by omega,?_⟩
   simp [execOp,e1,e2,Instr.makeSlice,run_underlying ht.und,asInt,asIntOf,typeInfo,hi,hby,askRoom,hT.run_size,hn,sizeOf,hsize,show IntKind.i64.wrap 0=0 from rfl]
  .refine ⟨(Array.range c).map (fun j => z.cells[j % z.cells.size]!), by simp, fun k hk => by
    have:k%1=0:=Nat.mod_one k
    simp [hk,hz,this],?_⟩
   simp [execOp,e1,e2,Instr.makeSlice,run_underlying ht.und,asInt,asIntOf,typeInfo,hi,hby,wc,h281,askRoom,hroom',sizeOf,hsize,hk0,zeroValue,hz0,hn,hkn]
 unfold Oper.wp
 rw [hrun]
 have hfin := hst.new (s.le_mk' arr T 0 hT32') (dst := some e) (fun d hd' => by cases hd'; simpa [Nat.blt_eq] using hd) (v := .slice (some ⟨s.w.heap.size, 0, none⟩) c c) (u := undef) (r := .d (sX s.w.heap.size c c)) (ow := .obj (Bj [⟨s.w.heap.size, T, List.replicate c (ex z)⟩])) rfl
  (by
   refine ⟨λx hx=>?_,by simp⟩
   rw [List.mem_singleton.1 hx]
   refine ⟨hT32',λk hk=>?_,arr,heap_alloc_new s.w _,by simp [harr],λk hk=>?_⟩
   .exact absurd (hst.ok.lt _ _ hk) (Nat.lt_irrefl _)
   .have hk:k<c:=by simpa using hk
    refine ⟨z,harr2 k hk,hz1,?_⟩
    have:Cj (List.replicate c (ex z)) k=ex z:=by simp [Cj,hk]
    rw [this]
    exact rfl)
  (λb hb=>by
   obtain ⟨x,hx,rfl⟩:=hb
   rw [List.mem_singleton.1 hx]
   exact Nat.le_refl _)
 have hg:=h s.w.heap.size
 rw [DB (hs s.w.heap.size)] at hg
 exact hK _ _ _ hg ⟨_,_,rfl,hfin⟩
theorem Rp{x y:Operand}{t T sz bytes id m b e:Nat}{z z':Value}{d:TypeDesc}{r2:List (List D)}{fr':List (Nat×AV)}{hpf:Nat->List Ow}(hx:AS.arg ⟨fr,hp⟩ x = .own id)(hh:hp[id]? = some (.row T sz []))(hlen:∀k,k<r2.length->(r2.getD k []).length=sz)(h0:0<r2.length)
  (hy:∀(s:GS) (ρ:Nat->Value) (a:Act),StI s0 n ⟨fr,hp⟩ a s ρ->∃(g p c:Nat) (news:List Value),a.eval y = .slice (some ⟨g,p,none⟩) r2.length c/\news.length=r2.length*sz/\(∀j u,news[j]? = some u->s.w.cell? ⟨g,p+j,none⟩=some u)/\(∀u∈news,u.oneCell'=true)/\∀k j,k<r2.length->j<sz->∃u,news[k*sz+j]? = some u/\u.oneCell'=true/\(Cj (r2.getD k []) j).rel s u)
  (ht:Tab P t (.slice T) m b z') (hT:Tab P T d sz bytes z) (hzs:z.cells.size=sz) (hd:Nat.blt e n=true) (hbytes:r2.length*bytes<=140737488355328) (h63:r2.length<=4611686018427387904) (hf:DW id (slD T sz []) fr=some fr') (hpl:PlainHp id hp) (hs:∀g,DI hp id (.obj (Bj [⟨g,T,r2.flatten⟩]))=some (hpf g))
  (h:∀g c,r2.length<=c->AWl P s0 n ops Q rest ⟨(e,.d (sX g r2.length c))::fr',hpf g⟩):AWl P s0 n ops Q (⟨some e,.call { callee:=.builtin .append,args:=#[x,y],argTypes:=#[t,t] },ty,ps,af,none⟩::rest) ⟨fr,hp⟩:=by
 refine AWl.step rfl λs ρ a hst K hK=>?_
 have hx':=hst.arg x
 rw [hx] at hx'
 obtain ⟨hid,e1⟩:=hx'
 obtain ⟨xs,h2,h3,h4,h5,h6⟩:=hst.hp id _ hh
 have hold:(slD T sz []).rel s (ρ id):=CQ (av:=.own id) hst.hp ⟨hid,rfl⟩ (by simp [Ew,hh])
 obtain ⟨g0,p,c0,news,e2,n1,n2,n3,n4⟩:=hy s ρ a hst
 have hxs:xs=[]:=List.eq_nil_of_length_eq_zero (by have:=h2.1;simpa using this)
 subst hxs
 obtain ⟨v',s',hr,q1,q2,q3,q4,q5,q6,q7⟩:=Kj (P:=P) (ty:=ty) hst.le hst.ok ht.und hT hzs h3 h4 h2 (λb hb=>hst.own id _ b hh hb) h5 g0 p r2.length c0 news n1 h0 n2 n3 (by simpa using hbytes) (by simpa using h63)
 simp only [List.length_nil,Nat.zero_add,List.nil_append] at q4 q5
 have hrun:(execOp a.eval ⟨some e,.call { callee:=.builtin .append,args:=#[x,y],argTypes:=#[t,t] },ty,ps,af,none⟩).run P s.w = .ok (.value v') s'.w:=by
  simp only [execOp,resolve,invoke,builtin,Sem.run_bind,Sem.run_pure,Result.andThen_ok,List.map_toArray,List.map_cons,List.map_nil,e1,e2,hr]
 unfold Oper.wp
 rw [hrun]
 obtain ⟨g,cap,cur,rfl,hbg,hg,hnc,hcm,hcs,htake⟩:=q4.2.resolve_left (λ⟨_,hn⟩=>by omega)
 have hSg:∀k,¬s.S g k:=λk hk=>by
  rcases q7 g rfl with hb | hb
  .have:=(h5 g hb k).1 hk
   simp at this
  .have:=hst.ok.lt _ _ hk
   omega
 let s2:GS:=⟨λb k=>s'.S b k/\b≠g,s'.tag,s'.w⟩
 have hc2:GS.Chg s s2:=⟨q3.size,λb k hk=>⟨q3.up b k hk,λe=>hSg k (e▸hk)⟩,q3.cell⟩
 have hok2:s2.Ok:=⟨λb k hk=>q2.lt b k hk.1,λb k hty=>⟨q2.safe b k hty,λe=>by
  subst e
  obtain ⟨cs,fz,hb⟩:=hty
  have hb:s'.w.heap[b]? = _:=hb
  rw [hg] at hb
  exact h3 (Obj.cells.inj (Option.some.inj hb)).2.1⟩⟩
 have hle2:GS.LeX s0.mine s0.g s2:=⟨q1.os,q1.tape,q1.output,q1.block,hst.le.chg.trans hc2,λb k hb hm hk=>q1.old b k hb hm hk.1,q1.tag,λ_=>hok2⟩
 have hst':=hst.upd (s':=s2) (o':=.obj (Bj [⟨g,T,r2.flatten⟩])) (ρ':=λi=>if i=id then .slice (some ⟨g,0,none⟩) r2.length cap else ρ i) (f:=down id (slD T sz [])) hle2 hok2 hc2 hh
  (λb hb hnb=>⟨(q6 b hb hnb).1,λk=>⟨λhk=>((q6 b hb hnb).2 k).1 hk.1,λhk=>⟨((q6 b hb hnb).2 k).2 hk,λe=>hSg k (e▸hk)⟩⟩⟩) (λj hj=>if_neg hj)
  (by
   refine ⟨λw hw=>?_,by simp⟩
   rw [List.mem_singleton.1 hw]
   have hflat:∀(l:List (List D)),(∀k,k<l.length->(l.getD k []).length=sz)->l.flatten.length=l.length*sz/\∀k j,k<l.length->j<sz->Cj l.flatten (k*sz+j)=Cj (l.getD k []) j:=by
    intro l
    induction l with
    | nil=>intro _;exact ⟨by simp,λk j hk=>by simp at hk⟩
    | cons r l ih=>
     intro hl
     have hr0:r.length=sz:=hl 0 (by simp)
     obtain ⟨i1,i2⟩:=ih λk hk=>hl (k+1) (by simpa using hk)
     refine ⟨by simp only [List.flatten_cons,List.length_append,List.length_cons];rw [i1,hr0,Nat.succ_mul];omega,λk j hk hj=>?_⟩
     cases k with
     | zero=>simp [Cj,List.getElem?_append,hr0,hj]
     | succ k=>
      have:=i2 k j (by simpa using hk) hj
      rw [Nat.succ_mul]
      simp only [List.flatten_cons,Cj,List.getD_cons_succ] at this ⊢
      rw [<-this,List.getD_eq_getElem?_getD,List.getD_eq_getElem?_getD,List.getElem?_append_right (by omega),hr0]
      congr 2
      omega
   obtain ⟨f1,f2⟩:=hflat r2 hlen
   have hcl:cur.size=cap*sz:=hcs
   refine ⟨h3,λk hk=>hk.2 rfl,cur,hg,by show r2.flatten.length<=_;rw [f1,hcl];exact Nat.mul_le_mul_right _ hnc,λk hk=>?_⟩
   have hk:k<r2.length*sz:=by rw [<-f1];exact hk
   have hd1:=Nat.div_add_mod k sz
   have hkl:k/sz<r2.length:=Nat.div_lt_of_lt_mul (by rw [Nat.mul_comm];exact hk)
   have hkm:k%sz<sz:=Nat.mod_lt _ h4
   obtain ⟨u,r1,r2',r3⟩:=n4 (k/sz) (k%sz) hkl hkm
   have e3:k/sz*sz+k%sz=k:=by rw [Nat.mul_comm];exact hd1
   rw [e3] at r1
   refine ⟨u,?_,r2',?_⟩
   .have:(cur.toList.take (r2.length*sz))[k]? = some u:=by rw [htake]; exact r1
    rw [List.getElem?_take,if_pos hk] at this
    simpa using this
   .have:=f2 (k/sz) (k%sz) hkl hkm
    rw [e3] at this
    show (Cj r2.flatten k).rel s2 u
    rw [this]
    exact (Cj _ _).st r3 hc2)
  (λb hb=>by
   obtain ⟨w,hw,rfl⟩:=hb
   rw [List.mem_singleton.1 hw]
   exact q7 g rfl) λav v hav=>by
    cases av with
    | d x=>exact x.st hav hc2
    | ptr i off=>
     obtain ⟨p1,bb,p2,p3⟩:=hav
     refine ⟨p1,bb,?_,p3⟩
     show (if i=id then _ else ρ i)=_
     by_cases e:i=id
     .exfalso
      subst e
      rcases h2.2 with ⟨w1,_⟩ | ⟨g,cap,cur,w1,_⟩<;>rw [w1] at p2<;>cases p2
     .rw [if_neg e];exact p2
    | own j=>
     obtain ⟨p1,p2⟩:=hav
     show AVr hp.length _ s2 (bif Nat.beq j id then .d (slD T sz []) else .own j) v
     cases hb:Nat.beq j id with
     | true=>
      have e:j=id:=Nat.eq_of_beq_eq_true hb
      subst e
      rw [p2]
      exact (slD T sz []).st hold hc2
     | false=>
      have e:j≠id:=Nat.ne_of_beq_eq_false hb
      exact ⟨p1,p2.trans (if_neg e).symm⟩
    | fn f caps=>
     obtain ⟨p1,p2⟩:=hav
     show AVr hp.length _ s2 (bif caps.contains id then .d Dp else .fn f caps) v
     cases hb:caps.contains id with
     | true=>trivial
     | false=>
      have hn:id∉caps:=λh=>by rw [List.contains_iff_mem.2 h] at hb;cases hb
      exact ⟨p1,by rw [p2,List.map_congr_left λi hi=>(if_neg λe=>hn (by rw [<-e];exact hi):(if i=id then _ else ρ i)=ρ i)]⟩
 have hfin:=hst'.put (GS.Le.refl s2) (dst:=some e) (λd hd'=>by cases hd';simpa [Nat.blt_eq] using hd) (v:=.slice (some ⟨g,0,none⟩) r2.length cap) (r:=.d (sX g r2.length cap)) rfl
 have hg2:=h g cap hnc
 rw [CZ (hs g),HL hf] at hg2
 simp only [CC hpl.ok] at hfin
 exact hK _ _ _ hg2 ⟨s2,_,rfl,hfin⟩
end
section
variable {P:Program} {hp:List Ow} {arg:Operand->AV} {dd:Option Tmp} {ty:TypeId} {ps:String} {af:Array Edge} {gd:Option (Nat×Bool)}
theorem BE{x y:Operand}{t:TypeId}{e n b n' b' g len cap k:Nat}{d:TypeDesc}{z z':Value}{κ:IntKind}(hx:arg x = .d (sX g len cap))(hy:arg y = .d (ex (.int κ ((k:Nat):Int))))(ht:Tab P t (.slice e) n b z)(he:Tab P e d n' b' z')(hk:k<len):Quiet P hp ⟨dd,.indexAddr t x y,ty,ps,af,gd⟩ arg (.d (pX g (k*n'))):=by
 refine ⟨λbase s ρ ev hok hbs hhp h=>?_⟩
 have h1:=h x (by simp [Op.operands])
 have h2:=h y (by simp [Op.operands])
 rw [hx] at h1;rw [hy] at h2
 have e1:ev x = .slice (some ⟨g,0,none⟩) len cap:=h1
 have e2:ev y = .int κ ((k:Nat):Int):=h2
 refine BO (v:=.pointer (some ⟨g,k*n',none⟩)) ?_ ⟨GS.Le.refl s,rfl⟩
 have h0:(0:Int)<=((k:Nat):Int):=by omega
 have hi:((k:Nat):Int)<(len:Int):=by omega
 simp [execOp,e1,e2,Instr.indexAt,asIntOf,run_underlying ht.und,h0,hk,he.run_size,Addr.add_lit]
theorem Fj{x:Operand}{t:TypeId}{e n b g len cap:Nat}{z:Value}(hx:arg x = .d (sX g len cap))(ht:Tab P t (.slice e) n b z):Quiet P hp ⟨dd,.call { callee:=.builtin .len,args:=#[x],argTypes:=#[t] },ty,ps,af,gd⟩ arg (.d (ex (.int .i64 (len:Nat)))):=by
 refine ⟨λbase s ρ ev hok hbs hhp h=>?_⟩
 have h1:=h x (by simp [Op.operands,Call.operands])
 rw [hx] at h1
 have e1:ev x = .slice (some ⟨g,0,none⟩) len cap:=h1
 refine BO (v:=.int .i64 (len:Nat)) ?_ ⟨GS.Le.refl s,rfl⟩
 simp [execOp,resolve,invoke,builtin,e1,Builtin.len_,run_underlying ht.und,goInt]
end
section
variable {P:Program} {s0:An} {n:Nat} {ops:Array Oper} {Q:Exit->AS->Prop} {rest:List Oper} {fr:List (Nat×AV)} {hp hp':List Ow} {ty:TypeId} {ps:String} {af:Array Edge}
theorem A1w{x y:Operand}{t T T2 sz bytes id m b e:Nat}{z z':Value}{d:TypeDesc}{r2:List (List D)}{fr':List (Nat×AV)}{hpf:Nat->List Ow}(hx:AS.arg ⟨fr,hp⟩ x = .own id)(hh:hp[id]? = some (.row T sz []))(hlen:∀k,k<r2.length->(r2.getD k []).length=sz)(h0:0<r2.length)(hy:Ew hp (AS.arg ⟨fr,hp⟩ y)=some (slD T2 sz r2))
  (ht:Tab P t (.slice T) m b z') (hT:Tab P T d sz bytes z) (hzs:z.cells.size=sz) (hd:Nat.blt e n=true) (hbytes:r2.length*bytes<=140737488355328) (h63:r2.length<=4611686018427387904) (hf:DW id (slD T sz []) fr=some fr') (hpl:PlainHp id hp) (hs:∀g,DI hp id (.obj (Bj [⟨g,T,r2.flatten⟩]))=some (hpf g))
  (h:∀g c,r2.length<=c->AWl P s0 n ops Q rest ⟨(e,.d (sX g r2.length c))::fr',hpf g⟩):AWl P s0 n ops Q (⟨some e,.call { callee:=.builtin .append,args:=#[x,y],argTypes:=#[t,t] },ty,ps,af,none⟩::rest) ⟨fr,hp⟩:=
 Rp hx hh hlen h0 (λs ρ a hst=>by
  obtain ⟨A,c,e2,h7,h8,h9⟩:=CQ hst.hp (hst.arg y) hy
  obtain ⟨g,p,rfl,h10⟩:=h9 h0
  obtain ⟨news,n1,n2,n3,n4⟩:=OU h10
  exact ⟨g,p,c,news,e2,n1,n2,n3,n4⟩) ht hT hzs hd hbytes h63 hf hpl hs h
theorem A1v{x y:Operand}{t T sz bytes id m b e g0 len c0 T0:Nat}{z z':Value}{d:TypeDesc}{fr':List (Nat×AV)}{hpf:Nat->List Ow}{L:List HE}(id2 i:Nat)(r2:List (List D))(hx:AS.arg ⟨fr,hp⟩ x = .own id)(hh:hp[id]? = some (.row T sz []))(hlen:∀k,k<r2.length->(r2.getD k []).length=sz)(h0:0<r2.length)(hy:AS.arg ⟨fr,hp⟩ y = .d (sX g0 len c0))(hl:len=r2.length)(hh2:hp[id2]? = some (.obj (Bj L)))(hi:L[i]? = some ⟨g0,T0,r2.flatten⟩)
  (ht:Tab P t (.slice T) m b z') (hT:Tab P T d sz bytes z) (hzs:z.cells.size=sz) (hd:Nat.blt e n=true) (hbytes:r2.length*bytes<=140737488355328) (h63:r2.length<=4611686018427387904) (hf:DW id (slD T sz []) fr=some fr') (hpl:PlainHp id hp) (hs:∀g,DI hp id (.obj (Bj [⟨g,T,r2.flatten⟩]))=some (hpf g))
  (h:∀g c,r2.length<=c->AWl P s0 n ops Q rest ⟨(e,.d (sX g r2.length c))::fr',hpf g⟩):AWl P s0 n ops Q (⟨some e,.call { callee:=.builtin .append,args:=#[x,y],argTypes:=#[t,t] },ty,ps,af,none⟩::rest) ⟨fr,hp⟩:=
 Rp hx hh hlen h0 (λs ρ a hst=>by
  have hy':=hst.arg y
  rw [hy] at hy'
  have e2:a.eval y = .slice (some ⟨g0,0,none⟩) r2.length c0:=by rw [<-hl];exact hy'
  obtain ⟨g1,-⟩:=DM (hst.hp id2 _ hh2)
  obtain ⟨-,-,cs,h4,h5,h6⟩:=g1 _ (List.mem_of_getElem? hi)
  have hflat:∀(l:List (List D)),(∀k,k<l.length->(l.getD k []).length=sz)->l.flatten.length=l.length*sz/\∀k j,k<l.length->j<sz->Cj l.flatten (k*sz+j)=Cj (l.getD k []) j:=by
   intro l
   induction l with
   | nil=>intro _;exact ⟨by simp,λk j hk=>by simp at hk⟩
   | cons r l ih=>
    intro hl
    have hr0:r.length=sz:=hl 0 (by simp)
    obtain ⟨i1,i2⟩:=ih λk hk=>hl (k+1) (by simpa using hk)
    refine ⟨by simp only [List.flatten_cons,List.length_append,List.length_cons];rw [i1,hr0,Nat.succ_mul];omega,λk j hk hj=>?_⟩
    cases k with
    | zero=>simp [Cj,List.getElem?_append,hr0,hj]
    | succ k=>
     have:=i2 k j (by simpa using hk) hj
     rw [Nat.succ_mul]
     simp only [List.flatten_cons,Cj,List.getD_cons_succ] at this ⊢
     rw [<-this,List.getD_eq_getElem?_getD,List.getD_eq_getElem?_getD,List.getElem?_append_right (by omega),hr0]
     congr 2
     omega
  obtain ⟨f1,f2⟩:=hflat r2 hlen
  replace h6:∀k,k<r2.length*sz->∃u,cs[k]? = some u/\u.oneCell'=true/\(Cj r2.flatten k).rel s u:=λk hk=>h6 k (by rw [<-f1] at hk;exact hk)
  replace h5:r2.length*sz<=cs.size:=by rw [<-f1];exact h5
  have hget:∀k,k<r2.length*sz->(cs.toList.take (r2.length*sz))[k]? = cs[k]?:=λk hk=>by rw [List.getElem?_take,if_pos hk];simp
  refine ⟨g0,0,c0,cs.toList.take (r2.length*sz),e2,by simp;omega,λj u hj=>?_,λu hu=>?_,λk j hk hj=>?_⟩
  .rw [Nat.zero_add,BK h4]
   have hjl:j<r2.length*sz:=by
    have:=(List.getElem?_eq_some_iff.1 hj).1
    rw [List.length_take] at this
    omega
   rw [<-hget j hjl];exact hj
  .obtain ⟨k,hk⟩:=List.mem_iff_getElem?.1 hu
   have hkl:k<r2.length*sz:=by
    have:=(List.getElem?_eq_some_iff.1 hk).1
    rw [List.length_take] at this
    omega
   rw [hget k hkl] at hk
   obtain ⟨w,w1,w2,_⟩:=h6 k hkl
   rw [w1] at hk
   cases hk
   exact w2
  .have hlt:k*sz+j<r2.length*sz:=by
    have:(k+1)*sz<=r2.length*sz:=Nat.mul_le_mul_right sz hk
    rw [Nat.succ_mul] at this
    omega
   obtain ⟨w,w1,w2,w3⟩:=h6 _ hlt
   rw [f2 k j hk hj] at w3
   exact ⟨w,by rw [hget _ hlt];exact w1,w2,w3⟩) ht hT hzs hd hbytes h63 hf hpl hs h
theorem Il{L1 L2:List HE}{hp1:List Ow}(i j:Nat)(hij:i≠j)(hi:hp[i]? = some (.obj (Bj L1)))(hj:hp[j]? = some (.obj (Bj L2)))(hs1:DI hp i (.obj (Bj (L1++L2)))=some hp1)(hs:DI hp1 j .dead=some hp'):AS.le ⟨fr,hp⟩ ⟨fr,hp'⟩:=by
 rw [CZ hs,CZ hs1]
 intro s0 n a w ⟨s,ρ,hw,hst⟩
 have hlen:((hp.set i (.obj (Bj (L1++L2)))).set j .dead).length=hp.length:=by simp
 have hil:=CD hi
 have hjl:=CD hj
 have hget:∀k o,((hp.set i (.obj (Bj (L1++L2)))).set j .dead)[k]? = some o->(k=j/\o = .dead)\/(k=i/\o = .obj (Bj (L1++L2)))\/(k≠i/\k≠j/\hp[k]? = some o):=λk o hk=>by
  rw [List.getElem?_set] at hk
  split at hk
  .rename_i e
   split at hk
   .cases hk;exact .inl ⟨e.symm,rfl⟩
   .cases hk
  .rename_i e
   rw [List.getElem?_set] at hk
   split at hk
   .rename_i e2
    first
     | (split at hk;(cases hk;exact .inr (.inl ⟨e2.symm,rfl⟩));(cases hk))
     | (cases hk;exact .inr (.inl ⟨e2.symm,rfl⟩))
   .rename_i e2
    exact .inr (.inr ⟨λh=>e2 h.symm,λh=>e h.symm,hk⟩)
 obtain ⟨a1,a2⟩:=DM (hst.hp i _ hi)
 obtain ⟨b1,b2⟩:=DM (hst.hp j _ hj)
 have hblk:∀k o b,((hp.set i (.obj (Bj (L1++L2)))).set j .dead)[k]? = some o->OwB s (ρ k) o b->∃k' o',hp[k']? = some o'/\OwB s (ρ k') o' b/\(k'=k\/(k=i/\k'=j)):=λk o b hk hb=>by
  rcases hget k o hk with ⟨rfl,rfl⟩ | ⟨rfl,rfl⟩ | ⟨h1,h2,h3⟩
  .exact hb.elim
  .obtain ⟨e,he,rfl⟩:=hb
   rcases List.mem_append.1 he with he | he
   .exact ⟨k,_,hi,⟨e,he,rfl⟩,.inl rfl⟩
   .exact ⟨j,_,hj,⟨e,he,rfl⟩,.inr ⟨rfl,rfl⟩⟩
  .exact ⟨k,o,h3,hb,.inl rfl⟩
 refine ⟨s,ρ,hw,hst.le,hst.ok,λt av ht=>?_,hst.sz,hst.df,λk o hk=>?_,λk l o o' hkl hk hl b hb hb'=>?_,λk o b hk hb=>?_⟩
 .show AVr ((hp.set i (.obj (Bj (L1++L2)))).set j .dead).length ρ s av _
  rw [hlen]
  exact hst.fr t av ht
 .show OwR 0 ((hp.set i (.obj (Bj (L1++L2)))).set j .dead).length ρ s k o
  rw [hlen]
  rcases hget k o hk with ⟨rfl,rfl⟩ | ⟨rfl,rfl⟩ | ⟨h1,h2,h3⟩
  .trivial
  .refine ⟨λe he=>?_,?_⟩
   .rcases List.mem_append.1 he with he | he
    .exact a1 e he
    .exact b1 e he
   .rw [List.map_append]
    refine List.nodup_append.2 ⟨a2,b2,λx hx y hy e=>?_⟩
    obtain ⟨u,hu,rfl⟩:=List.mem_map.1 hx
    obtain ⟨v,hv,rfl⟩:=List.mem_map.1 hy
    exact hst.sep k j _ _ hij hi hj u.b ⟨u,hu,rfl⟩ ⟨v,hv,e.symm⟩
  .exact hst.hp k o h3
 .obtain ⟨k',p,g1,g2,g3⟩:=hblk k o b hk hb
  obtain ⟨l',q,g4,g5,g6⟩:=hblk l o' b hl hb'
  by_cases e:k'=l'
  .subst e
   have hkj:k≠j:=λe=>by
    rcases hget k o hk with ⟨_,rfl⟩ | ⟨e1,_⟩ | ⟨_,h2,_⟩
    .exact hb.elim
    .exact hij (e1.symm.trans e)
    .exact h2 e
   have hlj:l≠j:=λe=>by
    rcases hget l o' hl with ⟨_,rfl⟩ | ⟨e1,_⟩ | ⟨_,h2,_⟩
    .exact hb'.elim
    .exact hij (e1.symm.trans e)
    .exact h2 e
   rcases g3 with g3 | ⟨g3,g3'⟩<;>rcases g6 with g6 | ⟨g6,g6'⟩
   .exact hkl (g3.symm.trans g6)
   .exact hkj (g3.symm.trans g6')
   .exact hlj (g6.symm.trans g3')
   .exact hkl (g3.trans g6.symm)
  .exact hst.sep k' l' p q e g1 g4 b g2 g5
 .obtain ⟨k',p,g1,g2,_⟩:=hblk k o b hk hb
  exact hst.own k' p b g1 g2
end
theorem Jh{c:Rat}{P:List Tm}{n N N0:Nat}{d:Int}(h:PB P n N d)(hs:RSz c N0):PB (Eu c P) n (N0+N) d:=by
 unfold Eu
 split
 .exact PB.nil
 .rename_i hc
  have:=Sk (t:=⟨c,λ_=>0⟩) (d0:=0) h hc hs λi _=>⟨Int.le_refl _,Int.le_refl _⟩
  rwa [Int.zero_add] at this
theorem Yt{m:Nat->Int}{d:Int}(h:In8 m 0 d):PB [⟨1,m⟩] 1 1 d:=GH (show (1:Rat)≠0 by decide) (rsz_one) h
where rsz_one:RSz (1:Rat) 1:=Dj (x:=1) (by omega) (by omega)
def YZ(P:List Tm):Int:=P.foldl (λd t=>max d (CT t.m 8)) (-1)
theorem Wv{P:List Tm}{k:Nat}(h:k<P.length):YZ (P.take (k+1))=max (YZ (P.take k)) (CT (AZ P k).m 8):=NV (λd t=>max d (CT t.m 8)) (-1) h
theorem PE(a:Nat->Int)(h:In8 a (-1000000) 1000000):Abs Tryz.prog 44 [BF (BW a)] (ex (.int .i64 (CT a 8))):=by
 refine Ab Tryz.func44 λs0=>?_
 rw [Tryz.ntmps44]
 apply Y1;refine Bx ?_;refine Wa<|Y0<|Y1<|Wa<|Y0<|Aa<|Y1<|Wa<|Y0<|AWp.block ?_
 refine AQ (λmz σ=>∃k,k<=8/\mz=8-k/\σ=⟨[(1,.ptr 0 0),(3,.d (ex (.int .i64 (CT a k)))),(4,.d (ex (.int .i64 (k:Nat))))],[.var 60 ((BW a).map .d)]⟩) ?le ⟨0,by omega,rfl,rfl⟩ ?round
 case le=>exact Ak (by exact Yp<|Yd<|Yd<|FrLe.nil) (by exact Yv<|HpLe.nil)
 case round=>
  rintro mz _ ⟨k,hk,rfl,rfl⟩
  by_cases hlt:k<8
  .have hk2:=h k hlt
   have hb:=Kq h k (by omega)
   refine Aa<|Y1<|Wm ?_;refine Wq Ai ?_;refine Y0<|Ct<|Ys<|Aa<|AWp.block<|AWp.region<|Wm<|Wm ?_;refine Wq ET ?_;refine Wq EG ?_;refine Wq EU ?_;refine Wa<|AWl.nil<|Ah<|Yn<|AWp.region<|Wm ?_;refine Wq AH ?_;refine Wa<|AWl.nil ?_
   refine ALoop.next (8-(k+1)) (by omega) ⟨k+1,by omega,rfl,rfl⟩ ?_
   exact Ak (by exact Yp<|Yd<|Yd<|FrLe.nil) (by exact Yv<|HpLe.nil)
  .obtain rfl:k=8:=by omega
   refine Aa<|Y1<|Wm ?_;refine Wq Aj ?_;refine Y0<|Cf<|AP<|AA<|AF<|AB<|Yn<|Y1<|Wm<|Wa<|Y0<|At ?_
   exact Yf
theorem ZF(P:List Tm)(hP:PIn P 0 65535)(hn:P.length<=1000000):Abs Tryz.prog 12 [Bp P] (ex (.int .i64 (YZ P))):=by
 refine Ab Tryz.func12 λs0=>?_
 rw [Tryz.ntmps12]
 refine Y1<|Wa<|Y0<|Y1<|Wa<|Y0<|Aa<|Y1<|Wa<|Y0<|AWp.block ?_
 refine AQ (λmz σ=>∃k,k<=P.length/\mz=P.length-k/\σ=⟨[(0,.d (Bp P)),(3,.d (ex (.int .i64 (YZ (P.take k))))),(4,.d (ex (.int .i64 (k:Nat))))],[]⟩) ?le ⟨0,by omega,rfl,rfl⟩ ?round
 case le=>exact Ak (by exact Yd<|Yd<|Yd<|FrLe.nil) (by exact HpLe.nil)
 case round=>
  rintro mz _ ⟨k,hk,rfl,rfl⟩
  by_cases hlt:k<P.length
  .have hin:=hP _ (CY hlt)
   have hst:=Wv hlt
   refine Aa<|Y1<|Wm<|Wm ?_;refine Wq AN ?_;refine Wq Ai ?_;refine Y0<|Ct<|Ys<|Aa<|AWp.block<|AWp.region<|Wm<|Wm<|Wm ?_;refine Wq AC ?_;refine Wq Bc ?_;refine Wq As ?_;refine Wq (Af (PE (AZ P k).m (hin.mono (by omega) (by omega)))) ?_;refine Wq A2x ?_;refine Wa<|AWl.nil<|Ah<|Yn<|AWp.region<|Wm ?_;refine Wq AH ?_;refine Wa<|AWl.nil ?_
   refine ALoop.next (P.length-(k+1)) (by omega) ⟨k+1,by omega,rfl,rfl⟩ ?_
   exact Ak (by exact Yd<|FrLe.cons rfl (AVle.int hst.symm)<|Yd<|FrLe.nil) (by exact HpLe.nil)
  .obtain rfl:k=P.length:=by omega
   refine Aa<|Y1<|Wm<|Wm ?_;refine Wq AN ?_;refine Wq Aj ?_;refine Y0<|Cf<|AP<|AA<|AF<|AB<|Yn<|Y1<|Wm<|Wa<|Y0<|At ?_
   exact Bf (Rets.of1 (ResV.tmp rfl rfl) (Be (by rw [List.take_length])))
theorem FI:Dm (1:Int)=[⟨1,λ_=>0⟩]:=by
 rw [Dm,if_neg (by decide)]
 rfl
theorem II{z:Int}(h0:-100000<=z)(h1:z<=100000):(Am z.natAbs).length<=1:=Ei (by simp only [BB,Nat.pow_one];omega)
open Classical in
theorem Pz(q:Rat)(N:Nat)(h:RSz q N)(hN:N<=1000000000):Abs Tryz.prog 9 [BF (Bz q)] (ex (.bool true)):=by
 have hq:TB (decide (q.num<0)) (Am q.num.natAbs) (decide ((q.den:Int)<0)) (Am (q.den:Int).natAbs):=⟨q,rfl,rfl,rfl,rfl⟩
 have:=KJ (decide (q.num<0)) (Am q.num.natAbs) (decide ((q.den:Int)<0)) (Am (q.den:Int).natAbs) (Bk _) (Bk _) (Nat.le_trans h.1 hN) (Nat.le_trans h.2 hN)
 rw [decide_eq_true hq] at this
 exact this
theorem KM{p q:Rat}(h:p=q):Abs Tryz.prog 60 [BF (Bz p),BF (Bz q)] (ex (.bool true)):=by
 have:=Th p q
 rwa [decide_eq_true h] at this
def Hi(s t:Tm):Int:=if Nj s.m t.m=true then Hj s.c t.c else Fc s.m t.m
def Ev:List Tm->List Tm->Int
 | [],[]=>0
 | [],_::_=>-1
 | _::_,[]=>1
 | s::P,t::Q=>if Hi s t=0 then Ev P Q else Hi s t
theorem Vx{P Q:List Tm}{k:Nat}(h1:k<P.length)(h2:k<Q.length):Ev (P.drop k) (Q.drop k)=if Hi (AZ P k) (AZ Q k)=0 then Ev (P.drop (k+1)) (Q.drop (k+1)) else Hi (AZ P k) (AZ Q k):=by
 rw [HJ h1,HJ h2,Ev]
theorem Gs{p q:Rat}:Hj p q=0↔p=q:=by
 rw [Hj,Int.sign_eq_zero_iff_zero,Rat.eq_iff_mul_eq_mul];omega
theorem Yc(p q:Rat):Hj p q = -1\/Hj p q=0\/Hj p q=1:=by
 unfold Hj
 rcases Int.lt_trichotomy (p.num*(q.den:Int)-q.num*(p.den:Int)) 0 with h | h | h
 .exact .inl (Int.sign_eq_neg_one_of_neg h)
 .exact .inr (.inl (by rw [h];rfl))
 .exact .inr (.inr (Int.sign_eq_one_of_pos h))
theorem TV{s t:Tm}(h:Eqv s.m t.m):Hi s t=Hj s.c t.c:=if_pos (CB.2 h)
theorem TU{s t:Tm}(h:¬Eqv s.m t.m):Hi s t=lx s.m t.m:=by rw [Hi,if_neg λh'=>h (CB.1 h'),GN]
theorem A3k{a b:Nat->Int}(h:¬Eqv a b):lx a b = -1\/lx a b=1:=by
 rcases JZ a b with h1 | h1 | h1
 .exact .inl h1
 .exact absurd (FX.1 h1) h
 .exact .inr h1
theorem XD(s t:Tm):Hi s t = -1\/Hi s t=0\/Hi s t=1:=by
 by_cases h:Eqv s.m t.m
 .rw [TV h];exact Yc _ _
 .rw [TU h];rcases A3k h with h | h<;>omega
theorem Nt{s t:Tm}:Hi s t=0↔s.c=t.c/\Eqv s.m t.m:=by
 by_cases h:Eqv s.m t.m
 .rw [TV h,Gs];exact ⟨λe=>⟨e,h⟩,λe=>e.1⟩
 .rw [TU h]
  exact ⟨λe=>absurd (FX.1 e) h,λe=>absurd e.2 h⟩
theorem Yo:∀P Q:List Tm,Ev P Q = -1\/Ev P Q=0\/Ev P Q=1
 | [],[]=>by simp [Ev]
 | [],_::_=>by simp [Ev]
 | _::_,[]=>by simp [Ev]
 | s::P,t::Q=>by
  rw [Ev]
  split
  .exact Yo P Q
  .exact XD s t
theorem Ib:∀{P Q:List Tm},Ev P Q=0↔SameL P Q
 | [],[]=>by simp [Ev,SameL]
 | [],_::_=>by simp [Ev,SameL]
 | _::_,[]=>by simp [Ev,SameL]
 | s::P,t::Q=>by
  have ih:=Ib (P:=P) (Q:=Q)
  have h:=Nt (s:=s) (t:=t)
  rw [Ev]
  by_cases h0:Hi s t=0
  .rw [if_pos h0,ih]
   have:=h.1 h0
   exact ⟨λe=>⟨this.1,this.2,e⟩,λe=>e.2.2⟩
  .rw [if_neg h0]
   exact ⟨λe=>absurd e h0,λe=>absurd (h.2 ⟨e.1,e.2.1⟩) h0⟩
theorem QJ{P Q:List Tm}(h:Ev P Q=0):P.length=Q.length:=(Ib.1 h).length
theorem WJ(s t:Tm)(hs:RSz s.c 1000000000)(ht:RSz t.c 1000000000):Abs Tryz.prog 89 [BF (Ix s),BF (Ix t)] (ex (.bool (decide (Hi s t=0)))):=by
 cases h:Nj s.m t.m with
 | true=>
  have e:Hi s t=Hj s.c t.c:=if_pos h
  by_cases hq:Hj s.c t.c=0
  .have hd:decide (Hi s t=0)=true:=decide_eq_true (e.trans hq)
   refine Ab Tryz.func89 λs0=>?_
   rw [Tryz.ntmps89]
   apply Y1;refine Bx ?_;refine Bx ?_;refine Wa<|Y0<|Y1 ?_;refine Wq Aq ?_;refine Wq Ar ?_;refine Wq Aq ?_;refine Wq Ar ?_;refine Wq On ?_;refine Wm ?_;refine Wg Aq ?_;refine Wg Ar ?_;refine Wg Aq ?_;refine Wg Ar ?_;refine Wg (Af (Gr s.c t.c hs ht)) ?_;refine Wg Ai ?_;refine Wq AE ?_;refine Wa<|Y0<|At ?_
   exact Bf (Rets.of1 (ResV.tmp rfl rfl) (Be (by rw [hd])))
  .have hd:decide (Hi s t=0)=false:=decide_eq_false (by rw [e]; exact hq)
   refine Ab Tryz.func89 λs0=>?_
   rw [Tryz.ntmps89]
   apply Y1;refine Bx ?_;refine Bx ?_;refine Wa<|Y0<|Y1 ?_;refine Wq Aq ?_;refine Wq Ar ?_;refine Wq Aq ?_;refine Wq Ar ?_;refine Wq On ?_;refine Wm ?_;refine Wg Aq ?_;refine Wg Ar ?_;refine Wg Aq ?_;refine Wg Ar ?_;refine Wg (Af (Gr s.c t.c hs ht)) ?_;refine Wg Aj ?_;refine Wq AE ?_;refine Wa<|Y0<|At ?_
   exact Bf (Rets.of1 (ResV.tmp rfl rfl) (Be (by rw [hd])))
 | false=>
  have hn:¬Eqv s.m t.m:=λh'=>by rw [CB.2 h'] at h;cases h
  have hd:decide (Hi s t=0)=false:=decide_eq_false λe=>hn (Nt.1 e).2
  refine Ab Tryz.func89 λs0=>?_
  rw [Tryz.ntmps89]
  apply Y1;refine Bx ?_;refine Bx ?_;refine Wa<|Y0<|Y1 ?_;refine Wq Aq ?_;refine Wq Ar ?_;refine Wq Aq ?_;refine Wq Ar ?_;refine Wq WV ?_;refine Wm ?_;refine Ws ?_;refine Ws ?_;refine Ws ?_;refine Ws ?_;refine Ws ?_;refine Ws ?_;refine Wq Az ?_;refine Wa<|Y0<|At ?_
  exact Bf (Rets.of1 (ResV.tmp rfl rfl) (Be (by rw [hd])))
theorem TG(P Q:List Tm)(hP:PSz P 1000000000)(hQ:PSz Q 1000000000)(hn:P.length<=1000000)(hm:Q.length<=1000000):Abs Tryz.prog 88 [Bp P,Bp Q,ex (.func (.func 89) #[] #[])] (ex (.bool (decide (Ev P Q=0)))):=by
 by_cases hlen:P.length=Q.length
 .refine Ab Tryz.func88 λs0=>?_
  rw [Tryz.ntmps88]
  refine Y1<|Wa<|Y0<|Aa<|Y1<|Wm ?_;refine Wq AN ?_;refine Wm ?_;refine Wq AN ?_;refine Wq Aj ?_;refine Y0<|Cf<|Ys<|Aa<|Y1<|Wm ?_;refine Wq AN ?_;refine Wm<|Y0<|AWp.block ?_
  refine AQ (λmz σ=>∃k,k<=P.length/\Ev P Q=Ev (P.drop k) (Q.drop k)/\mz=P.length-k/\σ=⟨[(1,.d (Bp Q)),(2,.d (ex (.func (.func 89) #[] #[]))),(15,.d (Bp P)),(16,.d (ex (.int .i64 (P.length:Nat)))),(17,.d (ex (.int .i64 (k:Nat))))],[]⟩) ?le ⟨0,by omega,rfl,rfl,rfl⟩ ?round
  case le=>exact Ak (by exact Yd<|Yd<|Yd<|Yd<|Yd<|FrLe.nil) (by exact HpLe.nil)
  case round=>
   rintro m _ ⟨k,hk,heq,rfl,rfl⟩
   by_cases hlt:k<P.length
   .have hlt2:k<Q.length:=by omega
    have hs:=hP _ (CY hlt)
    have ht:=hQ _ (CY hlt2)
    have hd:=Vx hlt hlt2
    have c1:=WJ (AZ P k) (AZ Q k) hs ht
    by_cases hz:Hi (AZ P k) (AZ Q k)=0
    .rw [if_pos hz] at hd
     rw [decide_eq_true hz] at c1
     apply Y1;refine Wq Ai ?_;refine Y0<|Aa<|Ct<|Ys<|Aa<|AWp.block<|Y1<|Wm ?_;refine Wq AC ?_;refine Wq As ?_;refine Al ?_;refine Wa ?_;refine Sf ?_;refine Y0<|Y1<|Wm<|Wm ?_;refine Wq AC ?_;refine Wq As ?_;refine Al ?_;refine Sf ?_;refine Y0<|Y1<|Wm ?_;refine Wq Ar ?_;refine Wq Ar ?_;refine Wq (Af (c1)) ?_;refine Wq Bl ?_;refine Y0<|Cf<|Bw<|Ah<|Yn<|AWp.region ?_;refine Wq AH ?_;refine Wm<|AWl.nil ?_
     refine ALoop.next (P.length-(k+1)) (by omega) ⟨k+1,by omega,by rw [heq,hd],rfl,rfl⟩ ?_
     exact Ak (by exact Yd<|Yd<|Yd<|Yd<|Yd<|FrLe.nil) (by exact HpLe.nil)
    .rw [if_neg hz] at hd
     rw [decide_eq_false hz] at c1
     have he:decide (Ev P Q=0)=false:=decide_eq_false (by rw [heq,hd];exact hz)
     apply Y1;refine Wq Ai ?_;refine Y0<|Aa<|Ct<|Ys<|Aa<|AWp.block<|Y1<|Wm ?_;refine Wq AC ?_;refine Wq As ?_;refine Al ?_;refine Wa ?_;refine Sf ?_;refine Y0<|Y1<|Wm<|Wm ?_;refine Wq AC ?_;refine Wq As ?_;refine Al ?_;refine Sf ?_;refine Y0<|Y1<|Wm ?_;refine Wq Ar ?_;refine Wq Ar ?_;refine Wq (Af (c1)) ?_;refine Wq Bl ?_;refine Y0<|Ct<|Y1<|Wa<|Y0<|At<|Bm<|AL<|CH<|Bm<|AL ?_
     exact Bf (Rets.of1 (ResV.tmp rfl rfl) (Be (by rw [he])))
   .have he:decide (Ev P Q=0)=true:=decide_eq_true (by
     rw [heq,(List.drop_eq_nil_of_le (by omega):P.drop k=[]),(List.drop_eq_nil_of_le (by omega):Q.drop k=[]),Ev])
    apply Y1;refine Wq Aj ?_;refine Y0<|Aa<|Cf<|AP<|AA<|AF<|AB<|Yn<|Y1<|Wa<|Y0<|At ?_
    exact Bf (Rets.of1 (ResV.tmp rfl rfl) (Be (by rw [he])))
 .have he:decide (Ev P Q=0)=false:=decide_eq_false λe=>hlen (QJ e)
  refine Ab Tryz.func88 λs0=>?_
  rw [Tryz.ntmps88]
  refine Y1<|Wa<|Y0<|Aa<|Y1<|Wm ?_;refine Wq AN ?_;refine Wm ?_;refine Wq AN ?_;refine Wq Ai ?_;refine Y0<|Ct<|Y1<|Wa<|Y0<|At<|AL ?_
  exact Bf (Rets.of1 (ResV.tmp rfl rfl) (Be (by rw [he])))
theorem Xh(P Q:List Tm)(hP:PSz P 1000000000)(hQ:PSz Q 1000000000)(hn:P.length<=1000000)(hm:Q.length<=1000000):Abs Tryz.prog 59 [Bp P,Bp Q] (ex (.bool (decide (Ev P Q=0)))):=by
 refine Ab Tryz.func59 λs0=>?_
 rw [Tryz.ntmps59]
 refine Y1<|Wa<|Y0<|Y1<|Wm<|Wm ?_;refine Wq (Af (TG P Q hP hQ hn hm)) ?_;refine Wa<|Y0<|At ?_
 exact Yf
section
variable {P:Program} {hp:List Ow} {arg:Operand->AV} {dd:Option Tmp} {ty:TypeId} {ps:String} {af:Array Edge} {gd:Option (Nat×Bool)}
end
def JR(T sz:Nat)(rows:List (List D)):OD where
 rel s v:=∃xs:List Value,s.w.ownsRow 0 T sz v rows.length xs/\T≠108/\0<sz/\(∀b,DZ v=some b->∀k,¬s.S b k)/\∀k,k<rows.length->(rows.getD k []).length=sz/\∀j,j<sz->∃u,xs[k*sz+j]? = some u/\u.oneCell'=true/\(Cj (rows.getD k []) j).rel s u
 blk _ v b:=DZ v=some b
 lt:=λ⟨xs,h,_⟩ hb=>by
  rcases h.2 with ⟨rfl,_⟩ | ⟨g,cap,cur,rfl,_,hg,_⟩
  .cases hb
  .cases hb
   exact AU hg
 keep := fun ⟨xs, h, h1, h2, h3, h4⟩ hc hb => ⟨⟨xs, ⟨h.1, h.2.imp id fun ⟨g, cap, cur, e, r1, hg, r2⟩ => ⟨g, cap, cur, e, r1, (hb g (by rw [e]; rfl)).1.trans hg, r2⟩⟩, h1, h2, fun b hv k hk => h3 b hv k (((hb b hv).2 k).1 hk), fun k hk => ⟨(h4 k hk).1, fun j hj => by
  obtain ⟨u,r1,r2,r3⟩:=(h4 k hk).2 j hj
  exact ⟨u,r1,r2,(Cj _ j).st r3 hc⟩⟩⟩,λ_ hx=>hx⟩
section
variable {P:Program} {s0:An} {n:Nat} {ops:Array Oper} {Q:Exit->AS->Prop} {rest:List Oper} {fr:List (Nat×AV)} {hp hp':List Ow} {ty:TypeId} {ps:String} {af:Array Edge}
theorem A06{T sz:Nat}(id:Nat)(hh:hp[id]? = some (.row T sz []))(hs:DI hp id (.obj (JR T sz []))=some hp'):AS.le ⟨fr,hp⟩ ⟨fr,hp'⟩:=by
 rw [CZ hs]
 intro s0 n a w ⟨s,ρ,hw,hst⟩
 obtain ⟨xs,h2,h3,h4,h5,h6⟩:=hst.hp id _ hh
 have:=hst.upd (s':=s) (ρ':=ρ) (f:=λx=>x) (o':=.obj (JR T sz [])) hst.le hst.ok (GS.Chg.refl s) hh (λ_ _ _=>⟨rfl,λ_=>Iff.rfl⟩) (λ_ _=>rfl)
  ⟨xs,h2,h3,h4,λb hb k hk=>absurd ((h5 b hb k).1 hk) (by simp),λk hk=>absurd hk (Nat.not_lt_zero k)⟩ (λb hb=>.inl hb) λ_ _ h=>h
 rw [Hz,Fl] at this
 exact ⟨s,ρ,hw,this⟩
theorem UX{x y:Operand}{t T T2 sz bytes id m b e:Nat}{z z':Value}{d:TypeDesc}{rows r2:List (List D)}{fr':List (Nat×AV)}(hx:AS.arg ⟨fr,hp⟩ x = .own id)(hh:hp[id]? = some (.obj (JR T sz rows)))(hlen:∀k,k<r2.length->(r2.getD k []).length=sz)(h0:0<r2.length)(hy:Ew hp (AS.arg ⟨fr,hp⟩ y)=some (slD T2 sz r2))
  (ht:Tab P t (.slice T) m b z') (hT:Tab P T d sz bytes z) (hzs:z.cells.size=sz) (hd:Nat.blt e n=true) (hbytes:(rows.length+r2.length)*bytes<=140737488355328) (h63:rows.length+r2.length<=4611686018427387904) (hf:DW id Dp fr=some fr') (hpl:PlainHp id hp) (hs:DI hp id (.obj (JR T sz (rows++r2)))=some hp')
  (h:AWl P s0 n ops Q rest ⟨(e,.own id)::fr',hp'⟩):AWl P s0 n ops Q (⟨some e,.call { callee:=.builtin .append,args:=#[x,y],argTypes:=#[t,t] },ty,ps,af,none⟩::rest) ⟨fr,hp⟩:=by
 refine AWl.step rfl λs ρ a hst K hK=>?_
 have hx':=hst.arg x
 rw [hx] at hx'
 obtain ⟨hid,e1⟩:=hx'
 obtain ⟨xs,h2,h3,h4,h5,h6⟩:=hst.hp id _ hh
 obtain ⟨A,c0,e2,h7,h8,h9⟩:=CQ hst.hp (hst.arg y) hy
 obtain ⟨g0,p,rfl,h10⟩:=h9 h0
 obtain ⟨news,n1,n2,n3,n4⟩:=OU h10
 have hlt:∀b,DZ (ρ id)=some b->b<s.w.heap.size:=λb hb=>(JR T sz rows).lt (hst.hp id _ hh) hb
 let s1:GS:=⟨λb k=>s.S b k\/(DZ (ρ id)=some b/\k<rows.length*sz),s.tag,s.w⟩
 have hc1:GS.Chg s s1:=⟨Nat.le_refl _,λ_ _ hk=>.inl hk,λb cs T fz hb=>⟨cs,fz,hb,λ_ _=>rfl⟩⟩
 have hok1:s1.Ok:=⟨λb k hk=>hk.elim (hst.ok.lt b k) λh=>hlt b h.1,λb k hty=>.inl (hst.ok.safe b k hty)⟩
 have hle1:GS.LeX s0.mine s0.g s1:=⟨hst.le.os,hst.le.tape,hst.le.output,hst.le.block,hst.le.chg.trans hc1,λb k hb hm hk=>hk.elim (hst.le.old b k hb hm) λhk=>((hst.own id _ b hh hk.1).elim hm λh=>absurd hb (by omega)).elim,hst.le.tag,λ_=>hok1⟩
 obtain ⟨v',s',hr,q1,q2,q3,q4,q5,q6,q7⟩:=Kj (P:=P) (ty:=ty) hle1 hok1 ht.und hT hzs h3 h4 (v:=ρ id) h2 (λb hb=>hst.own id _ b hh hb) (λb hb k=>⟨λhk=>hk.elim (λhk=>absurd hk (h5 b hb k)) λh=>h.2,λhk=>.inr ⟨hb,hk⟩⟩) g0 p r2.length c0 news n1 h0 n2 n3 hbytes h63
 have hr:(Builtin.append_ #[t,t] ty #[ρ id,.slice (some ⟨g0,p,none⟩) r2.length c0]).run P s.w = .ok v' s'.w:=hr
 have hrun:(execOp a.eval ⟨some e,.call { callee:=.builtin .append,args:=#[x,y],argTypes:=#[t,t] },ty,ps,af,none⟩).run P s.w = .ok (.value v') s'.w:=by
  simp only [execOp,resolve,invoke,builtin,Sem.run_bind,Sem.run_pure,Result.andThen_ok,List.map_toArray,List.map_cons,List.map_nil,e1,e2,hr]
 unfold Oper.wp
 rw [hrun]
 obtain ⟨g,cap,cur,rfl,hbg,hg,hnc,hcm,hcs,htake⟩:=q4.2.resolve_left (λ⟨_,hn⟩=>by omega)
 have hSg:∀k,¬s.S g k:=λk hk=>by
  rcases q7 g rfl with hb | hb
  .exact h5 g hb k hk
  .have:=hst.ok.lt _ _ hk
   have hb:s.w.heap.size<=g:=hb
   omega
 let s2:GS:=⟨λb k=>s'.S b k/\b≠g/\DZ (ρ id)≠some b,s'.tag,s'.w⟩
 have hc2:GS.Chg s s2:=⟨q3.size,λb k hk=>⟨q3.up b k (.inl hk),λe=>hSg k (e▸hk),λe=>h5 b e k hk⟩,λb cs T fz hb=>by
  obtain ⟨cs',fz',r1,r2⟩:=q3.cell b cs T fz hb
  exact ⟨cs',fz',r1,λk hk=>r2 k (.inl hk)⟩⟩
 have hok2:s2.Ok:=⟨λb k hk=>q2.lt b k hk.1,λb k hty=>⟨q2.safe b k hty,λe=>by
  subst e
  obtain ⟨cs,fz,hb⟩:=hty
  have hb:s'.w.heap[b]? = _:=hb
  rw [hg] at hb
  exact h3 (Obj.cells.inj (Option.some.inj hb)).2.1,λe=>by
  rcases h2.2 with ⟨w1,_⟩ | ⟨g1,cap1,cur1,w1,_,w2,_⟩
  .rw [w1] at e;cases e
  .rw [w1] at e
   obtain rfl:g1=b:=Option.some.inj e
   obtain ⟨cs',fz',w3,_⟩:=q3.cell g1 _ _ _ w2
   obtain ⟨cs,fz,hb⟩:=hty
   have hb:s'.w.heap[g1]? = _:=hb
   rw [w3] at hb
   exact h3 (Obj.cells.inj (Option.some.inj hb)).2.1⟩⟩
 have hle2:GS.LeX s0.mine s0.g s2:=⟨q1.os,q1.tape,q1.output,q1.block,hst.le.chg.trans hc2,λb k hb hm hk=>q1.old b k hb hm hk.1,q1.tag,λ_=>hok2⟩
 have hnp:∀a,ρ id ≠ .pointer a:=λa e=>by
  rcases h2.2 with ⟨w1,_⟩ | ⟨_,_,_,w1,_⟩<;>rw [w1] at e<;>cases e
 have hst':=hst.upd (s':=s2) (o':=.obj (JR T sz (rows++r2))) (ρ':=λi=>if i=id then .slice (some ⟨g,0,none⟩) (rows.length+r2.length) cap else ρ i) (f:=down id Dp) hle2 hok2 hc2 hh
  (λb hb hnb=>⟨(q6 b hb hnb).1,λk=>⟨λhk=>(((q6 b hb hnb).2 k).1 hk.1).elim (λh=>h) λh=>absurd h.1 hnb,λhk=>⟨((q6 b hb hnb).2 k).2 (.inl hk),λe=>hSg k (e▸hk),hnb⟩⟩⟩) (λj hj=>if_neg hj)
  (by
   refine ⟨xs++news,?_,h3,h4,λb hb k hk=>?_,λk hk=>?_⟩
   .simp only [if_pos,List.length_append]
    exact q4
   .simp only [if_pos] at hb
    cases hb
    exact hk.2.1 rfl
   .rw [List.length_append] at hk
    by_cases hkr:k<rows.length
    .have e3:(rows++r2).getD k []=rows.getD k []:=by rw [List.getD_eq_getElem?_getD, List.getD_eq_getElem?_getD, List.getElem?_append_left hkr]
     rw [e3]
     refine ⟨(h6 k hkr).1,λj hj=>?_⟩
     obtain ⟨u,r1,r2',r3⟩:=(h6 k hkr).2 j hj
     have hb:k*sz+j<xs.length:=(List.getElem?_eq_some_iff.1 r1).1
     exact ⟨u,by rw [List.getElem?_append_left hb];exact r1,r2',(Cj _ j).st r3 hc2⟩
    .have e3:(rows++r2).getD k []=r2.getD (k-rows.length) []:=by rw [List.getD_eq_getElem?_getD, List.getD_eq_getElem?_getD, List.getElem?_append_right (by omega)]
     rw [e3]
     refine ⟨hlen _ (by omega),λj hj=>?_⟩
     obtain ⟨u,r1,r2',r3⟩:=n4 (k-rows.length) j (by omega) hj
     refine ⟨u,?_,r2',(Cj _ j).st r3 hc2⟩
     have hxl:xs.length=rows.length*sz:=h2.1
     have e4:k*sz=rows.length*sz+(k-rows.length)*sz:=by rw [<-Nat.add_mul];congr 1;omega
     rw [List.getElem?_append_right (by omega),hxl,show k*sz+j-rows.length*sz=(k-rows.length)*sz+j by omega]
     exact r1)
  (λb hb=>by
   have hb:DZ (if id=id then _ else _)=some b:=hb
   simp only [if_pos] at hb
   exact q7 b hb) (Rb (x:=Dp) trivial hc2 hnp)
 have hfin:=hst'.put (GS.Le.refl s2) (dst:=some e) (λd hd'=>by cases hd';simpa [Nat.blt_eq] using hd) (v:=.slice (some ⟨g,0,none⟩) (rows.length+r2.length) cap) (r:=.own id) ⟨by simpa using hid,by simp⟩
 rw [CZ hs,HL hf] at h
 simp only [CC hpl.ok] at hfin
 exact hK _ _ _ h ⟨s2,_,rfl,hfin⟩
theorem UY{c:Code}{T sz:Nat}{rows:List (List D)}{frf:Nat->Nat->List (Nat×AV)}{hpf:Nat->List Ow}(id:Nat)(hh:hp[id]? = some (.obj (JR T sz rows)))(h0:0<rows.length)(hf:∀g c,DW id (sX g rows.length c) fr=some (frf g c))(hpl:PlainHp id hp)(hs:∀g,DI hp id (.obj (Bj [⟨g,T,rows.flatten⟩]))=some (hpf g))
  (h:∀g k,rows.length<=k->k<=9223372036854775807->AWp P s0 n c Q ⟨frf g k,hpf g⟩):AWp P s0 n c Q ⟨fr,hp⟩:=by
 refine ⟨λa w ⟨s,ρ,hw,hst⟩=>?_⟩
 obtain ⟨xs,h2,h3,h4,h5,h6⟩:=hst.hp id _ hh
 obtain ⟨g,cap,cur,e1,hbg,hg,hnc,hcm,hcs,htake⟩:=h2.2.resolve_left (λ⟨_,hn⟩=>by omega)
 have hflat:∀(l:List (List D)),(∀k,k<l.length->(l.getD k []).length=sz)->l.flatten.length=l.length*sz/\∀k j,k<l.length->j<sz->Cj l.flatten (k*sz+j)=Cj (l.getD k []) j:=by
  intro l
  induction l with
  | nil=>intro _;exact ⟨by simp,λk j hk=>by simp at hk⟩
  | cons r l ih=>
   intro hl
   have hr0:r.length=sz:=hl 0 (by simp)
   obtain ⟨i1,i2⟩:=ih λk hk=>hl (k+1) (by simpa using hk)
   refine ⟨by simp only [List.flatten_cons,List.length_append,List.length_cons];rw [i1,hr0,Nat.succ_mul];omega,λk j hk hj=>?_⟩
   cases k with
   | zero=>simp [Cj,List.getElem?_append,hr0,hj]
   | succ k=>
    have:=i2 k j (by simpa using hk) hj
    rw [Nat.succ_mul]
    simp only [List.flatten_cons,Cj,List.getD_cons_succ] at this ⊢
    rw [<-this,List.getD_eq_getElem?_getD,List.getD_eq_getElem?_getD,List.getElem?_append_right (by omega),hr0]
    congr 2
    omega
 obtain ⟨f1,f2⟩:=hflat rows λk hk=>(h6 k hk).1
 have hnp:∀a,ρ id ≠ .pointer a:=λa e=>by rw [e1] at e;cases e
 have hst':=hst.upd (s':=s) (o':=.obj (Bj [⟨g,T,rows.flatten⟩])) (ρ':=λi=>if i=id then ρ id else ρ i) (f:=down id (sX g rows.length cap)) hst.le hst.ok (GS.Chg.refl s) hh (λ_ _ _=>⟨rfl,λ_=>Iff.rfl⟩) (λj hj=>if_neg hj)
  (by
   refine ⟨λw hw=>?_,by simp⟩
   rw [List.mem_singleton.1 hw]
   refine ⟨h3,λk=>h5 g (by rw [e1];rfl) k,cur,hg,by show rows.flatten.length<=_;rw [f1,hcs];exact Nat.mul_le_mul_right _ hnc,λk hk=>?_⟩
   have hk:k<rows.length*sz:=by rw [<-f1];exact hk
   have hd1:=Nat.div_add_mod k sz
   have hkl:k/sz<rows.length:=Nat.div_lt_of_lt_mul (by rw [Nat.mul_comm];exact hk)
   have hkm:k%sz<sz:=Nat.mod_lt _ h4
   obtain ⟨u,r1,r2',r3⟩:=(h6 (k/sz) hkl).2 (k%sz) hkm
   have e3:k/sz*sz+k%sz=k:=by rw [Nat.mul_comm];exact hd1
   rw [e3] at r1
   refine ⟨u,?_,r2',?_⟩
   .rw [<-htake,List.getElem?_take,if_pos hk] at r1
    simpa using r1
   .have:=f2 (k/sz) (k%sz) hkl hkm
    rw [e3] at this
    show (Cj rows.flatten k).rel s u
    rw [this]
    exact r3)
  (λb hb=>by
   obtain ⟨w,hw,rfl⟩:=hb
   rw [List.mem_singleton.1 hw]
   exact .inl (by show DZ (ρ id)=_;rw [e1];rfl)) (Rb (x:=sX g rows.length cap) e1 (GS.Chg.refl s) hnp)
 have hk:=h g cap hnc hcm
 rw [HL (hf g cap),CZ (hs g)] at hk
 rw [CC hpl.ok] at hst'
 exact hk.run a w ⟨s,_,hw,hst'⟩
def Hset(s:GS)(e:HE):Prop:=∃cs:Array Value,s.w.heap[e.b]? = some (.cells cs e.T (0,0))/\∀k,k<e.ds.length->s.S e.b k/\∃u,cs[k]? = some u/\u.oneCell'=true/\(Cj e.ds k).rel s u
theorem He{L:List HE}{x R:D}{av0:AV}(id t:Nat)(hh:hp[id]? = some (.obj (Bj L)))(hx:CA fr t=some av0)(hx0:Ew hp av0=some x)(hs:DI hp id .dead=some hp')(hR:∀s:GS,(∀e∈L,Hset s e)->∀v,x.rel s v->R.rel s v):AS.le ⟨fr,hp⟩ ⟨(t,.d R)::fr,hp'⟩:=by
 rw [CZ hs]
 intro s0 n a w ⟨s,ρ,hw,hst⟩
 obtain ⟨h1,-⟩:=DM (hst.hp id _ hh)
 let s2:GS:=⟨λb k=>s.S b k\/∃e,e∈L/\e.b=b,s.tag,s.w⟩
 have hc2:GS.Chg s s2:=⟨Nat.le_refl _,λ_ _ hk=>.inl hk,λb cs T fz hb=>⟨cs,fz,hb,λ_ _=>rfl⟩⟩
 have hok2:s2.Ok:=⟨λb k hk=>hk.elim (hst.ok.lt b k) λ⟨e,he,hb⟩=>hb▸(h1 e he).lt,λb k hty=>.inl (hst.ok.safe b k hty)⟩
 have hle2:GS.LeX s0.mine s0.g s2:=⟨hst.le.os,hst.le.tape,hst.le.output,hst.le.block,hst.le.chg.trans hc2,λb k hb hm hk=>hk.elim (hst.le.old b k hb hm) λhk=>((hst.own id _ b hh hk).elim hm λh=>absurd hb (by omega)).elim,hst.le.tag,λ_=>hok2⟩
 have hst':=hst.upd (s':=s2) (o':=.dead) (ρ':=ρ) (f:=λx=>x) hle2 hok2 hc2 hh
  (λb _ hnb=>⟨rfl,λk=>⟨λhk=>hk.elim (λh=>h) λh=>absurd h hnb,λhk=>.inl hk⟩⟩) (λ_ _=>rfl) trivial (λb hb=>hb.elim) λav v h=>h.chg hc2
 rw [Hz,Fl] at hst'
 have hst':StI s0 n ⟨fr,hp.set id .dead⟩ a s2 ρ:=hst'
 refine ⟨s2,ρ,hw,⟨hst'.le,hst'.ok,λu av hu=>?_,hst'.sz,hst'.df,hst'.hp,hst'.sep,hst'.own⟩⟩
 rw [DL] at hu
 split at hu
 .rename_i e
  cases hu
  subst e
  refine hR s2 (λe he=>?_) _ (x.st (CQ hst.hp (hst.fr t _ hx) hx0) hc2)
  obtain ⟨hT,hS,cs,h2,h3,h4⟩:=h1 e he
  exact ⟨cs,h2,λk hk=>⟨.inr ⟨e,he,rfl⟩,by
   obtain ⟨u,g1,g2,g3⟩:=h4 k hk
   exact ⟨u,g1,g2,(Cj e.ds k).st g3 hc2⟩⟩⟩
 .exact hst'.fr u av hu
theorem OE(hs:Eo hp (.obj (Bj []))=some hp'):AS.le ⟨fr,hp⟩ ⟨fr,hp'⟩:=by
 rw [DB hs]
 intro s0 n a w ⟨s,ρ,hw,hst⟩
 have hlen:(hp++[Ow.obj (Bj [])]).length=hp.length+1:=by simp
 have hget:∀(i:Nat) (o:Ow),(hp++[Ow.obj (Bj [])])[i]? = some o->hp[i]? = some o\/o=Ow.obj (Bj []):=λi o hi=>by
  rw [List.getElem?_append] at hi
  split at hi
  .exact .inl hi
  .rename_i hge
   have:i-hp.length=0:=by
    have:=CD hi
    simp at this
    omega
   rw [this] at hi
   exact .inr (Option.some.inj hi).symm
 refine ⟨s,ρ,hw,hst.le,hst.ok,λt av ht=>?_,hst.sz,hst.df,λi o hi=>?_,λi j o o' hij hi hj b hb hb'=>?_,λi o b hi hb=>?_⟩
 .show AVr (hp++[Ow.obj (Bj [])]).length ρ s av _
  rw [hlen]
  exact (hst.fr t av ht).mono (Nat.le_succ _) λ_ _=>rfl
 .show OwR 0 (hp++[Ow.obj (Bj [])]).length ρ s i o
  rw [hlen]
  rcases hget i o hi with h1 | rfl
  .exact (hst.hp i o h1).mono (Nat.le_succ _) (λ_ _=>rfl) (CD h1)
  .exact ⟨λe he=>(by cases he),List.nodup_nil⟩
 .rcases hget i o hi with h1 | rfl
  .rcases hget j o' hj with h2 | rfl
   .exact hst.sep i j o o' hij h1 h2 b hb hb'
   .obtain ⟨e,he,_⟩:=hb'
    cases he
  .obtain ⟨e,he,_⟩:=hb
   cases he
 .rcases hget i o hi with h1 | rfl
  .exact hst.own i o b h1 hb
  .obtain ⟨e,he,_⟩:=hb
   cases he
end
theorem Hset.sl{s:GS}{e:HE}(h:Hset s e){T sz len cap:Nat}{rows:List (List D)}(hT:e.T=T)(hl:rows.length=len)(hlc:len<=cap)(hcm:cap<=9223372036854775807)(hlen:∀k,k<rows.length->(rows.getD k []).length=sz)(hds:∀k j,k<rows.length->j<sz->k*sz+j<e.ds.length/\Cj e.ds (k*sz+j)=Cj (rows.getD k []) j):(slD T sz rows).rel s (.slice (some ⟨e.b,0,none⟩) len cap):=by
 subst hT
 subst hl
 obtain ⟨cs,h1,h2⟩:=h
 refine ⟨_,cap,rfl,hlc,hcm,λ_=>⟨e.b,0,rfl,λk hk=>⟨hlen k hk,cs,_,h1,λj hj=>?_⟩⟩⟩
 rw [hlen k hk] at hj
 obtain ⟨g1,g2⟩:=hds k j hk hj
 obtain ⟨h3,u,h4,h5,h6⟩:=h2 _ g1
 rw [Nat.zero_add]
 exact ⟨h3,u,h4,h5,by rw [<-g2];exact h6⟩
theorem Quiet.hp{P:Program}{o:Oper}{arg:Operand->AV}{r:AV}{hp hp2:List Ow}(hl:hp2.length=hp.length)(h:∀base ρ s,HpOk base ρ s hp->HpOk base ρ s hp2)(hq:Quiet P hp2 o arg r):Quiet P hp o arg r:=⟨λbase s ρ ev h1 h2 h3 h4=>by
 have:=hq.run base s ρ ev h1 h2 (h base ρ s h3)
 rw [hl] at this
 exact this h4⟩
section
variable {P:Program} {hp:List Ow} {arg:Operand->AV} {dd:Option Tmp} {ty:TypeId} {ps:String} {af:Array Edge} {gd:Option (Nat×Bool)}
def ArgsZ(hp:List Ow)(L:List HE)(arg:Operand->AV):List Operand->List D->Prop
 | [],[]=>True
 | x::l,d::ds=>(∃y,Ew hp (arg x)=some y/\∀s:GS,(∀e∈L,Hset s e)->∀v,y.rel s v->d.rel s v)/\ArgsZ hp L arg l ds
 | _,_=>False
theorem ArgsZ.nil{L:List HE}:ArgsZ hp L arg [] []:=trivial
theorem ArgsZ.le{L:List HE}{x:Operand}{l:List Operand}{d y:D}{ds:List D}(h:Ew hp (arg x)=some y)(hl:D.le y d)(hr:ArgsZ hp L arg l ds):ArgsZ hp L arg (x::l) (d::ds):=⟨⟨y,h,λs _ v=>hl s v⟩,hr⟩
theorem ArgsZ.rel{base:Nat}{ρ:Nat->Value}{s s':GS}{L:List HE}{ev:Operand->Value}(hh:HpOk base ρ s hp)(hc:GS.Chg s s')(hs:∀e∈L,Hset s' e):∀{l:List Operand} {ds:List D},ArgsZ hp L arg l ds->(∀x∈l,AVr hp.length ρ s (arg x) (ev x))->l.length=ds.length/\∀k,k<ds.length->(Cj ds k).rel s' ((l.map ev).getD k undef)
 | [],[],_,_=>⟨rfl,λk hk=>absurd hk (by simp)⟩
 | [],_::_,h,_=>h.elim
 | _::_,[],h,_=>h.elim
 | x::l,d::ds,⟨⟨y,h1,h2⟩,h3⟩,h=>by
  obtain ⟨i1,i2⟩:=ArgsZ.rel hh hc hs h3 λx hx=>h x (List.mem_cons_of_mem _ hx)
  refine ⟨by simpa using i1,λk hk=>?_⟩
  cases k with
  | zero=>exact h2 s' hs _ (y.st (CQ hh (h x List.mem_cons_self) h1) hc)
  | succ k=>exact i2 k (by simpa using hk)
end
def D.free(X:List TypeId)(r:D):Prop:=∀(s:GS) (S':Nat->Nat->Prop) (v:Value),(∀b k,s.S b k->S' b k\/∃cs T fz,s.w.heap[b]? = some (.cells cs T fz)/\T∈X)->r.rel s v->r.rel ⟨S',s.tag,s.w⟩ v
def allFree(X:List TypeId)(ds:List D):Prop:=∀k,k<ds.length->(Cj ds k).free X
theorem allFree.nil{X:List TypeId}:allFree X []:=λk hk=>absurd hk (Nat.not_lt_zero k)
theorem allFree.cons{X:List TypeId}{d:D}{ds:List D}(h:d.free X)(h':allFree X ds):allFree X (d::ds):=λk hk=>by
 cases k with
 | zero=>exact h
 | succ k=>exact h' k (by simpa using hk)
theorem D.free.some_{X:List TypeId}{α:Type}{p:α->Prop}{f:α->D}(h:∀x,(f x).free X):(Uc p f).free X:=λs S' v hS ⟨x,h1,h2⟩=>⟨x,h1,h x s S' v hS h2⟩
section
variable {P:Program} {s0:An} {n:Nat} {ops:Array Oper} {Q:Exit->AS->Prop} {rest:List Oper} {fr:List (Nat×AV)} {hp hp':List Ow} {ty:TypeId} {ps:String} {af:Array Edge}
end
structure PureQ(P:Program)(hp:List Ow)(o:Oper)(arg:Operand->AV)(r:AV):Prop where
 run:∀(base:Nat) (s:GS) (ρ:Nat->Value) (ev:Operand->Value),s.Ok->base<=s.w.heap.size->HpOk base ρ s hp->(∀x,x∈o.op.operands->AVr hp.length ρ s (arg x) (ev x))->∃v,(∀w,(execOp ev o).run P w = .ok (.value v) w)/\AVr hp.length ρ s r v
section
variable {P:Program} {hp:List Ow} {o:Oper} {arg:Operand->AV}
theorem PureQ.move{x:Operand}{r:AV}(hop:o.op = .move x)(hx:arg x=r):PureQ P hp o arg r:=by
 subst hx
 exact ⟨λbase s ρ ev hok hbs hhp h=>⟨ev x,λw=>by simp [execOp,hop],h x (by rw [hop];simp [Op.operands])⟩⟩
theorem PureQ.add{T U:TypeId}{x y:Operand}{a b:Int}(hop:o.op = .binOp .add T x y U)(hx:arg x = .d (ex (.int .i64 a)))(hy:arg y = .d (ex (.int .i64 b)))(h1:-9223372036854775808<=a+b)(h2:a+b<=9223372036854775807):PureQ P hp o arg (.d (ex (.int .i64 (a+b)))):=by
 refine ⟨λbase s ρ ev hok hbs hhp h=>?_⟩
 have e1:=h x (by rw [hop];simp [Op.operands])
 have e2:=h y (by rw [hop];simp [Op.operands])
 rw [hx] at e1;rw [hy] at e2
 have e1:ev x = .int .i64 a:=e1
 have e2:ev y = .int .i64 b:=e2
 have e:IntKind.i64.wrap (a+b)=a+b:=IntWalk.i64_in _ (by omega)
 exact ⟨.int .i64 (a+b),λw=>by simp [execOp,hop,e1,e2,eqGuard,binOp,Op.intArith,e],rfl⟩
theorem PureQ.slice{x:Operand}{t:TypeId}{e n b n' b' T sz:Nat}{d:TypeDesc}{z z':Value}{lo hi:Option Operand}{rows:List (List D)}{i j:Int}(hop:o.op = .slice t x lo hi none)(hx:Ew hp (arg x)=some (slD T sz rows))(ht:Tab P t (.slice e) n b z)(he:Tab P e d n' b' z')(hsz:n'=sz)(hlo:(∃y,lo=some y/\arg y = .d (ex (.int .i64 i)))\/(lo=none/\i=0))(hhi:(∃y,hi=some y/\arg y = .d (ex (.int .i64 j)))\/(hi=none/\j=rows.length))(h0:0<=i)(hij:i<=j)(hj:j<=rows.length):PureQ P hp o arg (.d (slD T sz ((rows.take j.toNat).drop i.toNat))):=by
 refine ⟨λbase s ρ ev hok hbs hhp h=>?_⟩
 obtain ⟨A,c,e1,h1,h2,h3⟩:=CQ hhp (h x (by rw [hop];simp [Op.operands])) hx
 subst hsz
 obtain ⟨i,rfl⟩:=Int.eq_ofNat_of_zero_le h0
 obtain ⟨j,rfl⟩:=Int.eq_ofNat_of_zero_le (Int.le_trans h0 hij)
 have hij':i<=j:=by omega
 have hj':j<=rows.length:=by omega
 have elo:∃lo',lo.map ev=lo'/\((lo'=some (.int .i64 i))\/(lo'=none/\i=0)):=by
  rcases hlo with ⟨y,rfl,hy⟩ | ⟨rfl,hi0⟩
  .have h5:=h y (by rw [hop]; simp [Op.operands])
   rw [hy] at h5
   exact ⟨_,rfl,.inl (by show some (ev y)=_;rw [show ev y=_ from h5])⟩
  .exact ⟨_,rfl,.inr ⟨rfl,by omega⟩⟩
 have ehi:∃hi',hi.map ev=hi'/\((hi'=some (.int .i64 j))\/(hi'=none/\j=rows.length)):=by
  rcases hhi with ⟨y,rfl,hy⟩ | ⟨rfl,hi0⟩
  .have h5:=h y (by rw [hop]; simp [Op.operands])
   rw [hy] at h5
   exact ⟨_,rfl,.inl (by show some (ev y)=_;rw [show ev y=_ from h5])⟩
  .exact ⟨_,rfl,.inr ⟨rfl,by omega⟩⟩
 obtain ⟨lo',l1,l2⟩:=elo
 obtain ⟨hi',r1,r2⟩:=ehi
 have hjc:(j:Int)<=c:=by omega
 have hic:(i:Int)<=j:=by omega
 have hb:∀w,(Instr.sliceBounds true rows.length c lo' hi' none).run P w = .ok (i,j,c) w:=λw=>by
  rcases l2 with rfl | ⟨rfl,rfl⟩<;>rcases r2 with rfl | ⟨rfl,rfl⟩<;>simp [Instr.sliceBounds,Instr.sliceBound,asIntOf,hjc,hic,hij',hj',h1]
  all_goals first | omega | simp [hij',hj',h1] | skip
 have hrun:∀w,(execOp ev o).run P w = .ok (.value (.slice (if c=i then A else A.map (·.add (i*n'))) (j-i) (c-i))) w:=λw=>by
  simp only [execOp,hop,l1,r1,e1,Option.map_none,Instr.sliceAt,Sem.run_bind,run_underlying ht.und,Result.andThen_ok,Instr.slice,hb,he.run_size,Sem.run_pure]
 have hlen:((rows.take (j:Int).toNat).drop (i:Int).toNat).length=j-i:=by simp;omega
 refine ⟨_,hrun,(if c=i then A else A.map (·.add (i*n'))),c-i,by rw [hlen],by rw [hlen];omega,by omega,λhp=>?_⟩
 rw [hlen] at hp
 obtain ⟨g,p,rfl,h5⟩:=h3 (by omega)
 refine ⟨g,p+i*n',?_,λk hk=>?_⟩
 .rw [if_neg (by omega)]
  simp [Addr.add_lit]
 .rw [hlen] at hk
  rw [show (j:Int).toNat=j from rfl,show (i:Int).toNat=i from rfl]
  rw [NG,NF (by omega)]
  have:=h5 (i+k) (by omega)
  rw [Nat.add_mul,<-Nat.add_assoc] at this
  exact this
theorem RP{α:Type}{x y:Operand}{t:TypeId}{e n b n' b' T sz i:Nat}{d:TypeDesc}{z z':Value}{f:α->List D}{l:List α}(hop:o.op = .slice t x (some y) none none)(hx:Ew hp (arg x)=some (slD T sz (l.map f)))(hy:arg y = .d (ex (.int .i64 (i:Nat))))(ht:Tab P t (.slice e) n b z)(he:Tab P e d n' b' z')(hsz:n'=sz)(hi:i<=l.length):PureQ P hp o arg (.d (slD T sz ((l.drop i).map f))):=by
 have h:=PureQ.slice (P:=P) (hp:=hp) (i:=(i:Nat)) (j:=((l.map f).length:Nat)) hop hx ht he hsz (.inl ⟨y,rfl,hy⟩) (.inr ⟨rfl,rfl⟩) (by omega) (by simp;omega) (by omega)
 have e1:((l.map f).take (((l.map f).length:Nat):Int).toNat).drop ((i:Nat):Int).toNat=(l.drop i).map f:=by
  rw [show (((l.map f).length:Nat):Int).toNat=(l.map f).length from rfl,List.take_length,List.map_drop]
  rfl
 rwa [e1] at h
theorem RO{α:Type}{x y:Operand}{t:TypeId}{e n b n' b' T sz i:Nat}{d:TypeDesc}{z z':Value}{f:α->List D}{l:List α}(hop:o.op = .slice t x none (some y) none)(hx:Ew hp (arg x)=some (slD T sz (l.map f)))(hy:arg y = .d (ex (.int .i64 (i:Nat))))(ht:Tab P t (.slice e) n b z)(he:Tab P e d n' b' z')(hsz:n'=sz)(hi:i<=l.length):PureQ P hp o arg (.d (slD T sz ((l.take i).map f))):=by
 have h:=PureQ.slice (P:=P) (hp:=hp) (i:=0) (j:=(i:Nat)) hop hx ht he hsz (.inr ⟨rfl,rfl⟩) (.inl ⟨y,rfl,hy⟩) (by omega) (by omega) (by simp;omega)
 have e1:((l.map f).take ((i:Nat):Int).toNat).drop ((0:Nat):Int).toNat=(l.take i).map f:=by
  show ((l.map f).take i).drop 0=_
  rw [List.drop_zero,List.map_take]
 exact e1▸h
end
structure AWy(P:Program)(s0:An)(n:Nat)(ops:Array Oper)(Q:Exit->AS->Prop)(fuel:Nat)(listed:Array Bool)(σ:AS):Prop where
 run:∀a w,St s0 n σ a w->wpAny P .any ops (IH s0 n (OnlyN Q)) fuel listed a w
def XQ(ops:Array Oper):Array Bool->List Nat->Bool
 | listed,[]=>Region.ready .any ops listed==[]
 | listed,j::js=>Region.ready .any ops listed==[j]&&XQ ops (listed.setIfInBounds j true) js
def A2t(ops:Array Oper)(js:List Nat):Bool:=js.all λj=>(ops[j]?).isSome
def A0j(ops:Array Oper):List Nat->List Oper
 | []=>[]
 | j::js=>match ops[j]? with
  | some o=>o::A0j ops js
  | none=>[]
theorem Qm{ops:Array Oper}:∀{js:List Nat},A2t ops js=true->js.map (λj=>ops[j]?)=(A0j ops js).map some
 | [],_=>rfl
 | j::js,h=>by
  simp only [A2t,List.all_cons,Bool.and_eq_true] at h
  obtain ⟨o,ho⟩:=Option.isSome_iff_exists.1 h.1
  have ih:=Qm (js:=js) h.2
  simp only [A0j,ho,List.map_cons,ih]
section
variable {P:Program} {s0:An} {n:Nat} {ops:Array Oper} {Q:Exit->AS->Prop} {fr:List (Nat×AV)} {hp:List Ow}
theorem AWp.any{id:Nat}{l:List Oper}{σ:AS}(hm:P.follows .mixedOrders=true)(h:AWy P s0 n l.toArray Q l.toArray.size (Array.replicate l.toArray.size false) σ):AWp P s0 n (.region id l.toArray true) Q σ:=by
 refine ⟨λa w ⟨s,ρ,hw,hst⟩=>?_⟩
 subst hw
 have hst':=hst.put (MZ s) (dst:=none) (λd hd=>by cases hd) (v:=undef) (r:=.d Dp) trivial
 have h1:=h.run a s.w.drew ⟨s.dr,ρ,rfl,hst'⟩
 exact wp_mono (wp_region_any hm h1) λex a' w' ⟨σ',hq,hs⟩=>by
  obtain ⟨rfl,hq⟩:=hq
  exact ⟨σ',hq,hs⟩
theorem FN{fuel:Nat}{listed:Array Bool}(i:Nat){o:Oper}{d:Nat}{r:AV}(hi:ops[i]? = some o)(hg:o.guard=none)(hdst:o.dst=some d)(hs:Region.noSelect ops=true)(hf:Region.free .any ops listed i=true)(hr:(Region.ready .any ops listed).contains i=true)(hd:Nat.blt d n=true)(hq:PureQ P hp o (AS.arg ⟨fr,hp⟩) r)(h:AWy P s0 n ops Q fuel (listed.setIfInBounds i true) ⟨(d,r)::fr,hp⟩):AWy P s0 n ops Q (fuel+1) listed ⟨fr,hp⟩:=by
 refine ⟨λa w ⟨s,ρ,hw,hst⟩=>?_⟩
 subst hw
 obtain ⟨v,h1,h2⟩:=hq.run 0 s ρ a.eval hst.ok (Nat.zero_le _) hst.hp λx _=>hst.arg x
 have hst':=hst.put (GS.Le.refl s) (dst:=some d) (λd' hd'=>by cases hd';simpa [Nat.blt_eq] using hd) h2
 refine wpAny_take hi hs hf hr (λc a w h=>?_) (.inl ⟨by simp [Region.wanted,hg],h1⟩) ?_
 .obtain ⟨_,h,_⟩:=h
  have:=h.how
  cases this
 .rw [hdst]
  exact h.run _ _ ⟨s,ρ,rfl,hst'⟩
theorem OL{ops:Array Oper}{Q:Exit->Act->World->Prop}:∀(js:List Nat) (L:List Oper) (listed:Array Bool) (a:Act) (w:World),XQ ops listed js=true->js.map (λj=>ops[j]?)=L.map some->wpList P ops Q L a w->wpAny P .any ops Q js.length listed a w
 | [],[],listed,a,w,hs,_,h=>⟨by simpa [XQ] using hs,h⟩
 | [],_::_,_,_,_,_,hl,_=>by simp at hl
 | _::_,[],_,_,_,_,hl,_=>by simp at hl
 | j::js,o::L,listed,a,w,hs,hl,h=>by
  simp only [XQ,Bool.and_eq_true,beq_iff_eq] at hs
  simp only [List.map_cons,List.cons.injEq] at hl
  refine wpAny_all hs.1 (by simp) λi hi=>?_
  obtain rfl:i=j:=by simpa using hi
  unfold wpList at h
  unfold wpOp
  rw [hl.1]
  simp only
  split
  .rename_i hw
   rw [if_pos hw] at h
   exact h.imp (Oper.wp_mono λa w h=>OL js L _ a w hs.2 hl.2 h) λh=>h
  .rename_i hw
   rw [if_neg hw] at h
   exact OL js L _ _ w hs.2 hl.2 h
theorem AWy.seq{fuel:Nat}{listed:Array Bool}{σ:AS}(js:List Nat)(hs:XQ ops listed js=true)(hl:A2t ops js=true)(hf:fuel=js.length)(h:AWl P s0 n ops (OnlyN Q) (A0j ops js) σ):AWy P s0 n ops Q fuel listed σ:=by
 subst hf
 exact ⟨λa w hst=>OL js _ listed a w hs (Qm hl) (h.run a w hst)⟩
end
def sN(m:Nat->Int):Nat->Nat
 | 0=>0
 | i+1=>sN m i+(m i).toNat
theorem Qi{m:Nat->Int}(hm:∀i,i<8->0<=m i):∀i,i<=8->CT m i=sN m i
 | 0,_=>rfl
 | i+1,hi=>by
  have h1:=hm i (by omega)
  have h2:=Qi hm i (by omega)
  show CT m i+m i=((sN m i+(m i).toNat:Nat):Int)
  omega
def DegN(P:List Tm)(D:Nat):Prop:=∀t∈P,sN t.m 8<=D
theorem DegN.mono{P:List Tm}{D D':Nat}(h:DegN P D)(hd:D<=D'):DegN P D':=λt ht=>Nat.le_trans (h t ht) hd
theorem DegN.nil{D:Nat}:DegN [] D:=λt ht=>by cases ht
theorem DegN.add{P Q:List Tm}{D:Nat}(h:DegN P D)(k:DegN Q D):DegN (CV P Q) D:=λu hu=>by
 rcases Fb P Q u hu with ⟨s,hs,e⟩ | ⟨s,hs,e⟩
 .rw [<-e];exact h s hs
 .rw [<-e];exact k s hs
theorem A0T{P:List Tm}{D:Nat}(h:DegN P D)(h0:∀t∈P,∀i,i<8->0<=t.m i):YZ P<=(D:Nat):=by
 have key:∀(P:List Tm) (z:Int),(∀t∈P,CT t.m 8<=(D:Nat))->z<=(D:Nat)->P.foldl (λd t=>max d (CT t.m 8)) z<=(D:Nat):=by
  intro P
  induction P with
  | nil=>intro z _ hz;exact hz
  | cons t P ih=>
   intro z hP hz
   exact ih _ (λu hu=>hP u (by simp [hu])) (Int.max_le.2 ⟨hz,hP t (by simp)⟩)
 refine key P (-1) (λt ht=>?_) (by omega)
 rw [Qi (h0 t ht) 8 (by omega)]
 have:=h t ht
 omega
theorem A3i{P:List Tm}{n N:Nat}{d:Int}(h:PB P n N d):∀t∈P,∀i,i<8->0<=t.m i:=λt ht i hi=>(h.ex t ht i hi).1
theorem Vq{fn:Func}{rv rv' rv3:ResultVar}(h:fn.results=#[rv,rv',rv3]){tmps:Array Value}{P:Program}{w:World}{v v' v3:Value}(hv:(DD tmps rv).run P w = .ok v w)(hv':(DD tmps rv').run P w = .ok v' w)(hv3:(DD tmps rv3).run P w = .ok v3 w):(results fn tmps).run P w = .ok (.tuple #[v,v',v3]) w:=by
 have key:(results fn tmps).run P w=((DD tmps rv).run P w).andThen λa w'=>((DD tmps rv').run P w').andThen λb w''=>((DD tmps rv3).run P w'').andThen λc w3=>.ok (.tuple #[a,b,c]) w3:=by
  unfold results
  rw [h]
  cases rv<;>cases rv'<;>cases rv3<;>simp [DD,It]
 rw [key,hv,Result.andThen_ok,hv',Result.andThen_ok,hv3,Result.andThen_ok]
theorem Zu{P:Program}{σ:AS}{rv rv' rv3:ResultVar}{x y z r:D}(h:ResV P σ rv x)(h':ResV P σ rv' y)(h3:ResV P σ rv3 z)(hl:D.le (CK [x,y,z]) r):Rets P σ #[rv,rv',rv3] r:=⟨λbase ρ s tmps fn hf hh hfr=>by
 obtain ⟨v,e1,e2⟩:=h.run base ρ s tmps hh hfr
 obtain ⟨v',e3,e4⟩:=h'.run base ρ s tmps hh hfr
 obtain ⟨v3,e5,e6⟩:=h3.run base ρ s tmps hh hfr
 refine ⟨_,Vq hf e1 e3 e5,hl s _ ⟨_,rfl,rfl,λk hk=>?_⟩⟩
 have hk:k<3:=hk
 match k,hk with
 | 0,_=>exact ⟨_,rfl,e2⟩
 | 1,_=>exact ⟨_,rfl,e4⟩
 | 2,_=>exact ⟨_,rfl,e6⟩⟩
end Go.Proofs.YtnbfnoebjjdmnaaGreat
