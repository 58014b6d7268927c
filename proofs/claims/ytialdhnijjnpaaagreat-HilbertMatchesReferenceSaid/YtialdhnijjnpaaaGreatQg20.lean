/- Part 20 of the proof of hilbertMatchesReference_holds. No condition. -/
import Derived.Shelf.SlSortCmp.NoneTotal
import Derived.Test.YtialdhnijjnpaaaGreatQg2
import Derived.Test.YtialdhnijjnpaaaGreatQg18
import Derived.Test.YtialdhnijjnpaaaGreatQg19
set_option linter.unusedSimpArgs false
set_option linter.unusedVariables false
set_option maxRecDepth 100000
set_option maxHeartbeats 8000000
namespace Go.Proofs.YtialdhnijjnpaaaGreat
open Go.RowKit
theorem Dh{P:Program}{hp:List Ow}{arg:Operand->AV}{dd:Option Tmp}{ty:TypeId}{ps:String}{af:Array Edge}{gd:Option (Nat×Bool)}{x:Operand}{t:TypeId}{e n b k:Nat}{z:Value}{ms:Ai}(hx:Ed hp (arg x)=some (AZ ms))(hl:ms.length=k)(ht:Tab P t (.slice e) n b z):Quiet P hp ⟨dd,.call { callee:=.builtin .len,args:=#[x],argTypes:=#[t] },ty,ps,af,gd⟩ arg (.d (ex (.int .i64 (k:Nat)))):=by
 subst hl
 have:=JB (dd:=dd) (ty:=ty) (ps:=ps) (af:=af) (gd:=gd) hx ht
 simpa using this
theorem Nh:Abs Tryz.prog 124 [AZ [],ex (.func (.func 74) #[] #[])] Cp:=by
 refine ⟨Az Tryz.func124 (by kernel_rfl) (by kernel_rfl),λs vs hok hl hv=>?_⟩
 match vs,hl with
 | [a,b],_=>
  obtain ⟨A,c,e1,_⟩:=hv 0 (by decide)
  have e1:a = .slice A 0 c:=e1
  subst e1
  exact (AnyF.slices_SortFunc_none Tryz.sortMono A c b s.w).mono λe w' ⟨he,hw⟩=>⟨_,he,s,hw.symm,GS.Le.refl s,trivial⟩
theorem Rn:Abs Tryz.prog 135 [AZ []] (AZ []):=by
 refine Ab Tryz.func135 λs0=>?_
 rw [Tryz.ntmps135]
 refine Y1<|Wa<|Y0<|Aa<|Y1<|Wm ?_
 refine CD rfl rfl ?_
 refine ⟨_,XM rfl (ao rfl) (Ac rfl),?_⟩
 apply AWl.nil
 apply Yn
 refine Sk (ao rfl) ?_ ?_
 .refine Y1<|Wa<|Y0<|Am<|AP ?_
  exact AN (Rets.of1 (ResV.tmp rfl rfl) (Dw))
 .refine Ys<|Y1 ?_;refine CW (Ac rfl) (Ac rfl) rfl rfl rfl rfl rfl ?_;refine Wm ?_;refine Wq (A2g (ao rfl) rfl rfl (Ac rfl) (Ac rfl)) ?_;refine Wa<|Y0<|Am ?_
  exact AN (Rets.of1 (ResV.tmp rfl rfl) (BJ rfl))
theorem OH:Abs Tryz.prog 137 [AZ []] Cp:=by
 refine Ab Tryz.func137 λs0=>?_
 rw [Tryz.ntmps137]
 refine Y1<|Wm ?_;refine Wq (Dh (ms:=[]) (k:=0) rfl rfl (Ac rfl)) ?_;refine Wq DV ?_;refine Wa<|Wa<|Y0<|AWp.block ?_
 refine AC (λmz σ=>∃k,k<=0/\mz=0-k/\σ=⟨[(0,.d (AZ [])),(2,.d (ex (.int .i64 0))),(3,.d (ex (.int .i64 (-1))))],[]⟩) ?le ⟨0,by omega,rfl,rfl⟩ ?round
 case le=>exact Ah (by exact Yd<|Yd<|Yd<|FrLe.nil) (by exact HpLe.nil)
 case round=>
  rintro mz _ ⟨k,hk,rfl,rfl⟩
  by_cases hlt:k<0
  .omega
  .refine Aa<|Y1<|Wm<|Wm ?_;refine Wq Aj ?_;refine Y0<|Cf<|AA<|Aq<|Ar<|ABlock.hit ?_
   exact TW ⟨λ_ _ s tmps fn hf _ _=>⟨.tuple #[],by unfold results;rw [hf];simp,trivial⟩⟩
theorem PH:Abs Tryz.prog 95 [AZ []] (AZ []):=by
 refine Ab Tryz.func95 λs0=>?_
 rw [Tryz.ntmps95]
 refine Y1<|Wa<|Y0<|Y1<|Wm ?_;refine Wq (Ad (Rn)) ?_;refine Wa<|Y0<|Y1<|Wm ?_;refine Wq (Ad (Nh)) ?_;refine Y0<|Y1 ?_;refine Al ?_;refine Y0<|Y1 ?_;refine Wq (FW [0] rfl) ?_;refine Wa<|Y0<|Aa<|Y1<|Wm ?_;refine Wq (Dh (ms:=[]) (k:=0) rfl rfl (Ac rfl)) ?_;refine Wm<|Y0<|AWp.block ?_
 refine AC (λmz σ=>∃k,k<=0/\mz=0-k/\σ=⟨[(4,.ptr 0 0),(5,.fn 136 [0]),(13,.d (AZ [])),(14,.d (ex (.int .i64 0))),(15,.d (ex (.int .i64 0)))],[.var 28 ([ex (.slice none 0 0)].map .d)]⟩) ?le ⟨0,by omega,rfl,rfl⟩ ?round
 case le=>exact Ah (by exact Yp<|FrLe.cons rfl (AVle.fn rfl)<|Yd<|Yd<|Yd<|FrLe.nil) (by exact Yv<|HpLe.nil)
 case round=>
  rintro mz _ ⟨k,hk,rfl,rfl⟩
  by_cases hlt:k<0
  .omega
  .apply Y1;refine Wq Aj ?_;refine Y0<|Aa<|Cf<|AA<|Aq<|Ar<|ABlock.hit<|Yn<|Y1 ?_;refine Wq AQ ?_;refine Wq (Ad (OH)) ?_;refine Y0<|Y1 ?_;refine Wq AQ ?_;refine Wa<|Y0<|Am ?_
   exact AN (Rets.of1 (ResV.tmp rfl rfl) (Dw))
theorem Zr:HW []=[]:=by
 have h:IsMin [] []:=⟨List.Pairwise.nil,λx=>⟨λ⟨a,ha,_⟩=>(by cases ha),λ⟨⟨a,ha,_⟩,_⟩=>(by cases ha)⟩⟩
 have:=(KO h).same h
 cases hm:HW [] with
 | nil=>rfl
 | cons a l=>rw [hm] at this;exact this.elim
theorem PI(l:Ai)(hn:l.length<=1000)(hnn:∀a∈l,∀j,j<8->0<=a j):Abs Tryz.prog 95 [AZ l] (AZ (HW l)):=by
 by_cases h0:0<l.length
 .exact RY l h0 hn hnn
 .obtain rfl:l=[]:=List.eq_nil_of_length_eq_zero (by omega)
  rw [Zr]
  exact PH
def nC(f:Nat->Int)(n:Nat):List D:=(List.range n).map λi=>ex (.int .i64 (f i))
def nD(n:Nat)(f:Nat->Int):D:=slD 3 1 ((List.range n).map λi=>[ex (.int .i64 (f i))])
theorem Hd(f:Nat->Int)(n:Nat):(nC f n).length=n:=by simp [nC]
theorem UY{f:Nat->Int}{n i:Nat}(h:i<n):BG (nC f n) i=ex (.int .i64 (f i)):=by simp [nC,BG,h]
theorem Fj{f:Nat->Int}{n i:Nat}(h:i<n):CellAt (nC f n) (i*1) (ex (.int .i64 (f i))):=by
 rw [Nat.mul_one]
 exact ⟨by rw [Hd];exact h,UY h⟩
theorem OP{f:Nat->Int}{n i:Nat}{z:Int}(h:i<n):SetAt (nC f n) (i*1) [ex (.int .i64 z)] (nC (λj=>if j=i then z else f j) n):=by
 rw [Nat.mul_one]
 refine ⟨by rw [Hd];exact h,?_⟩
 apply List.ext_getElem?
 intro k
 unfold Nf
 simp only [nC]
 rw [List.getElem?_append,List.length_take,List.length_map,List.length_range,Nat.min_eq_left (by omega)]
 by_cases h1:k<i
 .rw [if_pos h1,List.getElem?_take,if_pos h1]
  have:¬k=i:=by omega
  simp [show k<n by omega,this]
 .rw [if_neg h1]
  by_cases h2:k=i
  .subst h2
   simp [h]
  .rw [List.getElem?_append_right (by simp; omega), List.getElem?_drop]
   have e:i+[ex (.int .i64 z)].length+(k-i-[ex (.int .i64 z)].length)=k:=by simp;omega
   rw [e]
   by_cases h3:k<n
   .simp [h3,h2]
   .simp [h3]
theorem UX{f:Nat->Int}{n:Nat}(h:f n=0):nC f n++[ex (.int .i64 0)]=nC f (n+1):=by
 simp [nC,List.range_succ,h]
theorem Zk{f f':Nat->Int}{n:Nat}(h:∀i,i<n->f i=f' i):nC f n=nC f' n:=List.map_congr_left λi hi=>by rw [h i (List.mem_range.1 hi)]
abbrev nX:List TypeId:=[3]
theorem Zg{s:GS}{g c n N:Nat}{f:Nat->Int}(h:Hset s ⟨g,3,nC f N⟩)(hn:n<=N)(hc:n<=c)(hc':c<=9223372036854775807){v:Value}(hv:(sX g n c).rel s v):(nD n f).rel s v:=by
 obtain rfl:v = .slice (some ⟨g,0,none⟩) n c:=hv
 have hr:∀k,k<n->((List.range n).map λi=>[ex (.int .i64 (f i))]).getD k []=[ex (.int .i64 (f k))]:=λk hk=>by simp [hk]
 refine h.sl rfl (by simp) hc hc' (λk hk=>?_) λk j hk hj=>?_
 .rw [hr k (by simpa using hk)]
  rfl
 .have hk:k<n:=by simpa using hk
  obtain rfl:j=0:=by omega
  rw [hr k hk,Nat.mul_one,Nat.add_zero]
  exact ⟨by show k<(nC f N).length;rw [Hd];omega,UY (by omega)⟩
section
variable {P:Program} {hp:List Ow} {arg:Operand->AV} {dd:Option Tmp} {ty:TypeId} {ps:String} {af:Array Edge} {gd:Option (Nat×Bool)}
theorem Mu{x y:Operand}{t:TypeId}{e n b n' b' g len cap k:Nat}{d:TypeDesc}{z z':Value}(hx:arg x = .d (sX g len cap))(hy:arg y = .d (ex (.int .i64 (k:Nat))))(ht:Tab P t (.slice e) n b z)(he:Tab P e d n' b' z')(hk:k<=len)(hc:len<=cap):Quiet P hp ⟨dd,.slice t x none (some y) none,ty,ps,af,gd⟩ arg (.d (sX g k cap)):=by
 refine ⟨λbase s ρ ev hok hbs hhp h=>?_⟩
 have h1:=h x (by simp [Op.operands])
 have h2:=h y (by simp [Op.operands])
 rw [hx] at h1;rw [hy] at h2
 have e1:ev x = .slice (some ⟨g,0,none⟩) len cap:=h1
 have e2:ev y = .int .i64 (k:Nat):=h2
 have hkc:(k:Int)<=cap:=by omega
 have hk0:(0:Int)<=(k:Int):=by omega
 have hb:∀w,(Instr.sliceBounds true len cap none (some (.int .i64 (k:Nat))) none).run P w = .ok (0,k,cap) w:=λw=>by
  simp [Instr.sliceBounds,Instr.sliceBound,asIntOf,hkc,hk0,hc]
  all_goals first | omega | skip
 refine Bk (v:=.slice (some ⟨g,0,none⟩) k cap) ?_ ⟨GS.Le.refl s,rfl⟩
 simp only [execOp,Option.map_none,Option.map_some,e1,e2,Instr.sliceAt,Sem.run_bind,run_underlying ht.und,Result.andThen_ok,Instr.slice,hb,he.run_size,Sem.run_pure]
 by_cases hcz:cap=0
 .rw [if_pos hcz]
  simp
 .rw [if_neg hcz]
  simp [Addr.add_lit]
end
theorem PO(f:Nat->Int)(n N g c:Nat)(Z:List Nat)(hn:n<=N)(hc:n<=c)(hN:N<=1000000):Con Tryz.prog 96 [.d (sX g n c)] [.obj (BN [⟨g,3,nC f N⟩] Z)] [] (λr hp'=>r = .d (sX g (FM f n) c)/\hp'=[.obj (BN [⟨g,3,nC f N⟩] Z),.dead]):=by
 refine BK Tryz.func96 rfl (Az Tryz.func96 (by kernel_rfl) (by kernel_rfl)) rfl λs0 pv0=>?_
 rw [Tryz.ntmps96]
 refine Y1<|Wa<|Y0<|Aa<|AWp.block ?_
 refine AC (λmz σ=>∃m,m<=n/\FM f m=FM f n/\mz=m/\σ=⟨[(0,.d (sX g m c))],[.obj (BN [⟨g,3,nC f N⟩] Z),.pin [(pv0,.own 0)]]⟩) ?le ⟨n,Nat.le_refl n,rfl,rfl,rfl⟩ ?round
 case le=>exact Ah (by exact Yd<|FrLe.nil) (by exact HpLe.cons (OwLe.obj rfl)<|HpLe.cons (Bi rfl)<|HpLe.nil)
 case round=>
  rintro m _ ⟨_,hm,htr,rfl,rfl⟩
  by_cases h0:m=0
  .subst h0
   refine Aa<|Y1<|Wm ?_;refine Wq (Dq (ao rfl) (Ac rfl)) ?_;refine Wq Aj ?_;refine Wm ?_;refine Ws ?_;refine Ws ?_;refine Ws ?_;refine Ws ?_;refine Ws ?_;refine Ws ?_;refine Ws ?_;refine Wq Bc ?_;refine Y0<|Cf<|AA<|Aq<|Ar<|ABlock.hit<|Yn<|Y1<|Wm<|Wa<|Y0<|Am ?_
   refine Bv (RetsA.one rfl) rfl ?_ rfl
   exact ⟨by rw [<-htr];rfl,rfl⟩
  .have hm1:m-1<N:=by omega
   by_cases hz:f (m-1)=0
   .refine Aa<|Aa<|AWp.region<|Wm ?_; refine Wq (Dq (ao rfl) (Ac rfl)) ?_; refine Wq Ak ?_; refine Wm ?_; refine Wg Af ?_; refine Wg Af ?_; refine Wg (Dq (ao rfl) (Ac rfl)) ?_; refine Wg CM ?_; refine Wg (CN (k:=m-1) (ao rfl) (ao rfl) (Ac rfl) (Ac rfl) (by omega)) ?_; refine Wg (HN 0 0 (ao rfl) rfl rfl (Ac rfl) rfl (Fj hm1)) ?_; refine Wg Ak ?_; refine Wq AM ?_; refine AWl.nil<|Yn<|Ct<|AWp.skip<|Yn<|AWp.block<|AWp.region<|Wm<|Wm ?_; refine Wq (Dq (ao rfl) (Ac rfl)) ?_; refine Wq CM ?_; refine Wq (Mu (k:=m-1) (ao rfl) (ao rfl) (Ac rfl) (Ac rfl) (by omega) (by omega)) ?_; refine Wa<|AWl.nil<|Ag ?_
    have htr':FM f (m-1)=FM f n:=by
     rw [<-htr]
     obtain ⟨q,rfl⟩:∃q,m=q+1:=⟨m-1,by omega⟩
     have hz':f q=0:=hz
     rw [show q+1-1=q from rfl,FM,if_pos hz']
    refine ALoop.next (m-1) (by omega) ⟨m-1,by omega,htr',rfl,rfl⟩ ?_
    exact Ah (by exact Yd<|FrLe.nil) (by exact HpLe.cons (OwLe.obj rfl)<|HpLe.cons (Bi rfl)<|HpLe.nil)
   .refine Aa<|Aa<|AWp.region<|Wm ?_; refine Wq (Dq (ao rfl) (Ac rfl)) ?_; refine Wq Ak ?_; refine Wm ?_; refine Wg Af ?_; refine Wg Af ?_; refine Wg (Dq (ao rfl) (Ac rfl)) ?_; refine Wg CM ?_; refine Wg (CN (k:=m-1) (ao rfl) (ao rfl) (Ac rfl) (Ac rfl) (by omega)) ?_; refine Wg (HN 0 0 (ao rfl) rfl rfl (Ac rfl) rfl (Fj hm1)) ?_; refine Wg Aj ?_; refine Wq AM ?_; refine AWl.nil<|Yn<|Cf<|AA<|Aq<|Ar<|ABlock.hit<|Yn<|Aa<|AWp.region<|Wm<|Wa<|AWl.nil<|Yn<|Am ?_
    have htr':FM f m=m:=by
     obtain ⟨q,rfl⟩:∃q,m=q+1:=⟨m-1,by omega⟩
     have hz':¬f q=0:=hz
     rw [FM,if_neg hz']
    refine Bv (RetsA.one rfl) rfl ?_ rfl
    exact ⟨by rw [<-htr,htr'],rfl⟩
theorem LT(h:Nat->D):∀l:List Nat,(l.map λi=>[h i]).flatten=l.map h
 | []=>rfl
 | a::l=>by
  have ih:=LT h l
  rw [List.map_cons,List.flatten_cons,ih]
  rfl
theorem Tl(n:Nat)(f:Nat->Int)(h0:0<n)(hn:n<=1000000):Con Tryz.prog 93 [.d (nD n f)] [] [] (λr hp'=>∃g c,n<=c/\c<=9223372036854775807/\r = .d (sX g n c)/\hp'=[.dead,.obj (BN [⟨g,3,nC f n⟩] [c*1])]):=by
 have hml:((List.range n).map λi=>[ex (.int .i64 (f i))]).length=n:=by simp
 have h8:∀k,k<((List.range n).map λi=>[ex (.int .i64 (f i))]).length->(((List.range n).map λi=>[ex (.int .i64 (f i))]).getD k []).length=1:=λk hk=>by
  rw [List.getD_eq_getElem?_getD,List.getElem?_eq_getElem hk,Option.getD_some,List.getElem_map]
  rfl
 have hfl:((List.range n).map λi=>[ex (.int .i64 (f i))]).flatten=nC f n:=LT _ _
 refine GD Tryz.func93 rfl (Az Tryz.func93 (by kernel_rfl) (by kernel_rfl)) rfl λs0=>?_
 rw [Tryz.ntmps93]
 refine Y1<|Wa<|Y0<|Aa<|Y1<|Wm ?_
 refine CD rfl rfl ?_
 refine ⟨_,NX (rows:=(List.range n).map λi=>[ex (.int .i64 (f i))]) rfl (ao rfl) (Ac rfl) (by omega),?_⟩
 apply AWl.nil
 apply Yn
 refine Cf ?_
 apply AWp.skip
 apply Yn
 apply Aa
 apply AWp.region
 refine CW (Ac rfl) (Ac rfl) rfl rfl rfl rfl rfl ?_
 refine Dc (Uk 1 rfl rfl) ?_
 refine CD rfl rfl ?_
 refine ⟨_,JA (ao rfl),?_⟩
 refine PM (r2:=(List.range n).map λi=>[ex (.int .i64 (f i))]) (ao rfl) rfl h8 (by omega) rfl (Ac rfl) (Ac rfl) rfl rfl (by rw [hml];simp;omega) (by rw [hml];simp;omega) rfl (by first | ((repeat (first | exact PlainHp.nil | refine PlainHp.var ?_ | refine Ck ?_ | refine PlainHp.dead ?_ | refine PlainHp.obj ?_ | refine PlainHp.pin rfl ?_ | refine BY rfl ?_));done) | fail) rfl ?_
 refine VY 1 rfl (by rw [List.nil_append];omega) (λg c=>rfl) (by first | ((repeat (first | exact PlainHp.nil | refine PlainHp.var ?_ | refine Ck ?_ | refine PlainHp.dead ?_ | refine PlainHp.obj ?_ | refine PlainHp.pin rfl ?_ | refine BY rfl ?_));done) | fail) (λg k=>rfl) λg c hc1 hc2=>?_
 refine Wa<|Y0<|Am ?_
 refine Bv (RetsA.one rfl) rfl ?_ rfl
 exact ⟨g,c,by rwa [List.nil_append,hml] at hc1,hc2,by rw [List.nil_append,hml],by rw [List.nil_append,hfl]⟩
theorem Con.frz{P:Program}{f:FuncId}{args:List AV}{hp:List Ow}{lost:List Nat}{Q Q':AV->List Ow->Prop}(h:Con P f args hp lost Q)(hQ:∀r hp',Q r hp'->∃(id:Nat) (L:List HE) (Z:List Nat) (x R:D),r = .d x/\hp'[id]? = some (.obj (BN L Z))/\(∀s:GS,(∀e∈L,Hset s e)->∀v,x.rel s v->R.rel s v)/\Q' (.d R) (hp'.set id .dead)):Con P f args hp lost Q':=by
 refine ⟨h.1,λs ρ vs h1 h2 h3 h4 h5=>(h.2 s ρ vs h1 h2 h3 h4 h5).mono λe w' ⟨v,he,s',ρ',r,hp',hq,hw,hr,ha⟩=>?_⟩
 obtain ⟨id,L,Z,x,R,rfl,hid,hrel,hq'⟩:=hQ r hp' hq
 obtain ⟨⟨g1,_⟩,_⟩:=Ex (ha.mem id _ hid)
 let s2:GS:=⟨λb k=>s'.S b k\/∃e,e∈L/\e.b=b,s'.tag,s'.w⟩
 have hc2:GS.Chg s' s2:=⟨Nat.le_refl _,λ_ _ hk=>.inl hk,λb cs T fz hb=>⟨cs,fz,hb,λ_ _=>rfl⟩⟩
 have hok2:s2.Ok:=⟨λb k hk=>hk.elim (ha.ok.lt b k) λ⟨e,he,hb⟩=>hb▸(g1 e he).lt,λb k hty=>.inl (ha.ok.safe b k hty)⟩
 have hset:∀e∈L,Hset s2 e:=λe he=>by
  obtain ⟨hT,hS,cs,w2,w3,w4⟩:=g1 e he
  exact ⟨cs,w2,λk hk=>⟨.inr ⟨e,he,rfl⟩,by
   obtain ⟨u,y1,y2,y3⟩:=w4 k hk
   exact ⟨u,y1,y2,(BG e.ds k).st y3 hc2⟩⟩⟩
 have hget:∀i o,(hp'.set id .dead)[i]? = some o->(i=id/\o = .dead)\/(i≠id/\hp'[i]? = some o):=λi o hi=>by
  rw [List.getElem?_set] at hi
  split at hi
  .rename_i e
   split at hi
   .cases hi;exact .inl ⟨e.symm,rfl⟩
   .cases hi
  .rename_i e
   exact .inr ⟨λe'=>e e'.symm,hi⟩
 have hfar:∀i o,i≠id->hp'[i]? = some o->∀b,OwB s' (ρ' i) o b->s2.w.heap[b]? = s'.w.heap[b]? /\ ∀k,s2.S b k↔s'.S b k:=λi o hne hi b hb=>⟨rfl,λk=>⟨λhk=>hk.elim (λh=>h) λ⟨e,he,heb⟩=>absurd ⟨e,he,heb⟩ (ha.sep i id o _ hne hi hid b hb),λhk=>.inl hk⟩⟩
 have hlen:(hp'.set id .dead).length=hp'.length:=List.length_set ..
 have hback:∀i o,i≠id->hp'[i]? = some o->∀b,OwB s2 (ρ' i) o b->OwB s' (ρ' i) o b:=λi o hne hi b hb=>OwB.keep (ha.mem i o hi) hc2 (hfar i o hne hi) hb
 refine ⟨v,he,s2,ρ',.d R,hp'.set id .dead,hq',hw,hrel s2 hset v (x.st hr hc2),⟨⟨ha.le.os,ha.le.tape,ha.le.output,ha.le.block,ha.le.chg.trans hc2,λb k hb hm hk=>hk.elim (ha.le.old b k hb hm) λhk=>((ha.own id _ b hid hk).elim (λh=>absurd h hm) λh=>absurd hb (by omega)),ha.le.tag,λ_=>hok2⟩,hok2,λi o hi=>?_,λi j o o' hij hi hj b hb hb'=>?_,λi o b hi hb=>?_,ha.kp,by rw [hlen];exact ha.len⟩⟩
 .show OwR 0 (hp'.set id .dead).length ρ' s2 i o
  rw [hlen]
  rcases hget i o hi with ⟨rfl,rfl⟩ | ⟨hne,hi⟩
  .trivial
  .exact (ha.mem i o hi).keep hc2 (hfar i o hne hi)
 .rcases hget i o hi with ⟨rfl,rfl⟩ | ⟨hne,hi⟩
  .exact hb.elim
  .rcases hget j o' hj with ⟨rfl,rfl⟩ | ⟨hne',hj⟩
   .exact hb'.elim
   .exact ha.sep i j o o' hij hi hj b (hback i o hne hi b hb) (hback j o' hne' hj b hb')
 .rcases hget i o hi with ⟨rfl,rfl⟩ | ⟨hne,hi⟩
  .exact hb.elim
  .exact ha.own i o b hi (hback i o hne hi b hb)
theorem PN{P:Program}{s0:An}{n:Nat}{c:Code}{Q:Exit->AS->Prop}{σ:AS}(σ':AS)(h:AWp P s0 n c (OnlyN (λ_ τ=>AS.le τ σ')) σ)(K:Q .normal σ'):AWp P s0 n c Q σ:=
 ⟨λa w hs=>wp_mono (h.run a w hs) λe a' w' ⟨τ,hq,ht⟩=>by
  obtain ⟨rfl,hq⟩:=hq
  exact ⟨σ',K,hq _ _ _ _ ht⟩⟩
theorem PureQ.index{P:Program}{hp:List Ow}{o:Oper}{arg:Operand->AV}{x y:Operand}{t:TypeId}{e n b n' b' T sz:Nat}{d:TypeDesc}{z z':Value}{rows:List (List D)}{k:IntKind}{i:Int}(hop:o.op = .indexAddr t x y)(hx:Ed hp (arg x)=some (slD T sz rows))(hy:arg y = .d (ex (.int k i)))(ht:Tab P t (.slice e) n b z)(he:Tab P e d n' b' z')(hsz:n'=sz)(h0:0<=i)(hi:i<rows.length):PureQ P hp o arg (.d (Iw T (rows.getD i.toNat []))):=by
 refine ⟨λbase s ρ ev hok hbs hhp h=>?_⟩
 have h1:=BW hhp (h x (by rw [hop];simp [Op.operands])) hx
 have h2:=h y (by rw [hop];simp [Op.operands])
 rw [hy] at h2
 have e2:ev y = .int k i:=h2
 obtain ⟨A,c,e1,h3,h4,h5⟩:=h1
 obtain ⟨g,p,rfl,h6⟩:=h5 (by omega)
 subst hsz
 refine ⟨.pointer (some ⟨g,p+i.toNat*n',none⟩),λw=>?_,g,_,rfl,(h6 i.toNat (by omega)).2⟩
 simp [execOp,hop,e1,e2,Instr.indexAt,asIntOf,run_underlying ht.und,h0,hi,he.run_size,Addr.add_lit]
theorem HU{P:Program}{s0:An}{n:Nat}{ops:Array Oper}{Q:Exit->AS->Prop}{fuel:Nat}{listed:Array Bool}{σ:AS}(i j:Nat)(is js:List Nat)(hr:(Region.ready .any ops listed==[i,j])=true)(hi:SB ops (listed.setIfInBounds i true) is=true)(hj:SB ops (listed.setIfInBounds j true) js=true)(ai:Rp ops (i::is)=true)(aj:Rp ops (j::js)=true)(fi:fuel=is.length+1)(fj:fuel=js.length+1)(h1:AWl P s0 n ops (OnlyN Q) (OB ops (i::is)) σ)(h2:AWl P s0 n ops (OnlyN Q) (OB ops (j::js)) σ):AWy P s0 n ops Q fuel listed σ:=by
 have one:∀(k:Nat) (ks:List Nat) (a:Act) (w:World),SB ops (listed.setIfInBounds k true) ks=true->Rp ops (k::ks)=true->wpList P ops (FC s0 n (OnlyN Q)) (OB ops (k::ks)) a w->wpOp P ops (FC s0 n (OnlyN Q)) k (wpAny P .any ops (FC s0 n (OnlyN Q)) ks.length (listed.setIfInBounds k true)) a w:=by
  intro k ks a w hs ha h
  have hm:=Lu ha
  have ha2:Rp ops ks=true:=by
   simp only [Rp,List.all_cons,Bool.and_eq_true] at ha ⊢
   exact ha.2
  have hm2:=Lu ha2
  have hk:∃o,ops[k]? = some o:=by
   simp only [Rp,List.all_cons,Bool.and_eq_true] at ha
   exact Option.isSome_iff_exists.1 ha.1
  obtain ⟨o,ho⟩:=hk
  have e:OB ops (k::ks)=o::OB ops ks:=by simp only [OB,ho]
  rw [e] at h
  unfold wpList at h
  unfold wpOp
  rw [ho]
  simp only
  split
  .rename_i hw
   rw [if_pos hw] at h
   exact h.imp (Oper.wp_mono λa w h=>KG ks _ _ a w hs hm2 h) λh=>h
  .rename_i hw
   rw [if_neg hw] at h
   exact KG ks _ _ _ w hs hm2 h
 refine ⟨λa w hst=>?_⟩
 have hr:=eq_of_beq hr
 subst fi
 have hjl:js.length=is.length:=by omega
 refine wpAny_all hr (by simp) λk hk=>?_
 simp only [List.mem_cons,List.not_mem_nil,or_false] at hk
 rcases hk with rfl | rfl
 .exact one _ is a w hi ai (h1.run a w hst)
 .exact hjl▸one _ js a w hj aj (h2.run a w hst)
section
variable {P:Program} {hp:List Ow} {arg:Operand->AV} {dd:Option Tmp} {ty:TypeId} {ps:String} {af:Array Edge} {gd:Option (Nat×Bool)}
theorem BX{x:Operand}{t:TypeId}{e m b n:Nat}{z:Value}{f:Nat->Int}(hx:Ed hp (arg x)=some (nD n f))(ht:Tab P t (.slice e) m b z):Quiet P hp ⟨dd,.call { callee:=.builtin .len,args:=#[x],argTypes:=#[t] },ty,ps,af,gd⟩ arg (.d (ex (.int .i64 (n:Nat)))):=by
 have:=JB (dd:=dd) (ty:=ty) (ps:=ps) (af:=af) (gd:=gd) (f:=λi=>[ex (.int .i64 (f i))]) (l:=List.range n) hx ht
 rwa [List.length_range] at this
theorem FI{x y:Operand}{t:TypeId}{e n b n' b' k m:Nat}{d:TypeDesc}{z z':Value}{f:Nat->Int}{κ:IntKind}(hx:Ed hp (arg x)=some (nD m f))(hy:arg y = .d (ex (.int κ (k:Nat))))(ht:Tab P t (.slice e) n b z)(he:Tab P e d n' b' z')(hsz:n'=1)(hk:k<m):Quiet P hp ⟨dd,.indexAddr t x y,ty,ps,af,gd⟩ arg (.d (Iw 3 [ex (.int .i64 (f k))])):=by
 have:=HO (dd:=dd) (ty:=ty) (ps:=ps) (af:=af) (gd:=gd) (k:=k) (f:=λi=>[ex (.int .i64 (f i))]) (l:=List.range m) hx hy ht he hsz (by rw [List.length_range];exact hk)
 have e:(List.range m).getD k default=k:=by simp [List.getD_eq_getElem?_getD,hk]
 rwa [e] at this
end
theorem A0S{P:Program}{s0:An}{n:Nat}{c:Code}{Q:Exit->AS->Prop}{σ:AS}(S:AS->Prop)(h:AWp P s0 n c (OnlyN (λ_ τ=>∃σ',S σ'/\AS.le τ σ')) σ)(K:∀σ',S σ'->Q .normal σ'):AWp P s0 n c Q σ:=
 ⟨λa w hs=>wp_mono (h.run a w hs) λe a' w' ⟨τ,hq,ht⟩=>by
  obtain ⟨rfl,σ',hS,hq⟩:=hq
  exact ⟨σ',K σ' hS,hq _ _ _ _ ht⟩⟩
def Low(m:Nat)(o:Ow):Prop:=∀(m':Nat) (ρ:Nat->Value) (s:GS) (i:Nat),OwR 0 m' ρ s i o->OwR 0 m ρ s i o
theorem Low.dead{m:Nat}:Low m .dead:=λ_ _ _ _ _=>trivial
theorem Low.var{m T:Nat}{cells:List AV}(h:∀av∈cells,∀m' ρ s v,AVr m' ρ s av v->AVr m ρ s av v):Low m (.var T cells):=λm' ρ s i ⟨b,cs,h1,h2,h3,h4,h5,h6,h7⟩=>⟨b,cs,h1,h2,h3,h4,h5,h6,λk av hk=>by
 obtain ⟨u,g1,g2,g3⟩:=h7 k av hk
 exact ⟨u,g1,g2,h av (List.mem_of_getElem? hk) _ _ _ _ g3⟩⟩
theorem Con.cut{P:Program}{f:FuncId}{args:List AV}{hp:List Ow}{lost:List Nat}{Q Q':AV->List Ow->Prop}(h:Con P f args hp lost Q)(hQ:∀r hp',Q r hp'->∃d hp2 tl,r = .d d/\hp'=hp2++tl/\hp.length<=hp2.length/\(∀o∈hp2,Low hp2.length o)/\Q' (.d d) hp2):Con P f args hp lost Q':=by
 refine ⟨h.1,λs ρ vs h1 h2 h3 h4 h5=>(h.2 s ρ vs h1 h2 h3 h4 h5).mono λe w' ⟨v,he,s',ρ',r,hp',hq,hw,hr,ha⟩=>?_⟩
 obtain ⟨d,hp2,tl,rfl,rfl,hl,hlow,hq'⟩:=hQ r hp' hq
 have hg:∀i o,hp2[i]? = some o->(hp2++tl)[i]? = some o:=λi o hi=>by
  rw [List.getElem?_append_left (List.getElem?_eq_some_iff.1 hi).1]
  exact hi
 exact ⟨v,he,s',ρ',.d d,hp2,hq',hw,hr,⟨ha.le,ha.ok,λi o hi=>hlow o (List.mem_of_getElem? hi) _ _ _ _ (ha.mem i o (hg i o hi)),λi j o o' hij hi hj=>ha.sep i j o o' hij (hg i o hi) (hg j o' hj),λi o b hi hb=>ha.own i o b (hg i o hi) hb,ha.kp,hl⟩⟩
theorem A37:Con Tryz.prog 90 [.d (AZ []),.ptr 0 0] [.var 80 [.fn 90 [0]]] [] (λr hp'=>r = .d (nD 1 λd=>if d=0 then 1 else 0)/\hp'=[.var 80 [.fn 90 [0]],.dead]):=by
 refine BK Tryz.func90 rfl (Az Tryz.func90 (by kernel_rfl) (by kernel_rfl)) rfl λs0 pv0=>?_
 rw [Tryz.ntmps90]
 refine Y1<|Wa<|Y0<|Aa<|Y1<|Wm ?_;refine Wq (Dh (ms:=[]) (k:=0) rfl rfl (Ac rfl)) ?_;refine Wq Ak ?_;refine Y0<|Ct<|Y1 ?_;(refine CD rfl rfl ?_;(refine Cl (Ac rfl) (Ac rfl) rfl rfl rfl rfl rfl ?_;(repeat ((first | refine ⟨_,AW (ao rfl),?_⟩ | refine ⟨_,Po rfl,?_⟩);refine ⟨_,rfl,?_⟩));refine ⟨_,rfl,?_⟩));refine Wa<|Y0<|Am<|AP ?_
 refine Bv (RetsA.one rfl) rfl ?_ rfl
 exact ⟨rfl,rfl⟩
theorem A36(a:Nat->Int)(l:Ai)(hz:HA a (λ_=>0)=true)(hl:l.length<=1000):Con Tryz.prog 90 [.d (AZ (a::l)),.ptr 0 0] [.var 80 [.fn 90 [0]]] [] (λr hp'=>r = .d (ex (.slice none 0 0))/\hp'=[.var 80 [.fn 90 [0]],.dead]):=by
 refine BK Tryz.func90 rfl (Az Tryz.func90 (by kernel_rfl) (by kernel_rfl)) rfl λs0 pv0=>?_
 rw [Tryz.ntmps90]
 refine Y1<|Wa<|Y0<|Aa<|Y1<|Wm ?_;refine Wq AR ?_;refine Wq Aj ?_;refine Y0<|Cf<|Ys<|Aa<|Y1<|Wm ?_;refine Wq NT ?_;refine Wq AB ?_;(refine CD rfl rfl ?_;(refine FK (Ac rfl) (Ac rfl) rfl rfl ?_;(repeat ((first | refine ⟨_,AW (ao rfl),?_⟩ | refine ⟨_,Po rfl,?_⟩);refine ⟨_,rfl,?_⟩));refine ⟨_,rfl,?_⟩));refine Wq (XN (b:=λ_=>0) (ao rfl) (ao rfl) hz) ?_;refine Y0<|Ct<|Y1<|Wa<|Y0<|Am<|AP ?_
 refine Bv (RetsA.one rfl) rfl ?_ rfl
 exact ⟨rfl,rfl⟩
theorem GN:Tab Tryz.prog 80 (.func #[28] #[30] false) 1 8 .nilFunc:=⟨Tryz.underlying80,by kernel_rfl⟩
abbrev OfC(l:Ai)(n:Nat)(f:Nat->Int):Prop:=Con Tryz.prog 90 [.d (AZ l),.ptr 0 0] [.var 80 [.fn 90 [0]]] [] (λr hp'=>r = .d (nD n f)/\hp'=[.var 80 [.fn 90 [0]],.dead])
abbrev OfW(l:Ai)(n:Nat)(f:Nat->Int):Prop:=Con Tryz.prog 90 [.d (AZ l),.ptr 0 0] [.var 80 [.fn 90 [0]]] [] (λr hp'=>∃g c N,n<=N/\N<=c/\N<=100000/\c<=9223372036854775807/\r = .d (sX g n c)/\hp'=[.var 80 [.fn 90 [0]],.dead,.dead,.dead,.dead,.dead,.obj (BN [⟨g,3,nC f N⟩] [c*1]),.dead])
theorem A3b:Low 2 (.var 80 [.fn 90 [0]]):=Low.var λav hav m' ρ s v h=>by
 rw [List.mem_singleton.1 hav] at h ⊢
 exact ⟨λi hi=>by rw [List.mem_singleton.1 hi];omega,h.2⟩
theorem OfW.ofC{l:Ai}{n:Nat}{f:Nat->Int}(h:OfW l n f):OfC l n f:=by
 refine (h.frz (Q':=λr hp'=>r = .d (nD n f)/\hp'=[.var 80 [.fn 90 [0]],.dead,.dead,.dead,.dead,.dead,.dead,.dead]) λr hp' ⟨g,c,N,h1,h2,_,h3,h4,h5⟩=>?_).cut λr hp' ⟨h1,h2⟩=>?_
 .subst h4 h5
  exact ⟨6,_,_,_,nD n f,rfl,rfl,λs hs v hv=>Zg (hs _ List.mem_cons_self) h1 (by omega) h3 hv,rfl,rfl⟩
 .subst h1 h2
  refine ⟨_,[.var 80 [.fn 90 [0]],.dead],[.dead,.dead,.dead,.dead,.dead,.dead],rfl,rfl,by decide,λo ho=>?_,rfl,rfl⟩
  rcases List.mem_cons.1 ho with rfl | ho
  .exact A3b
  .rw [List.mem_singleton.1 ho]
   exact Low.dead
theorem MI{a:Nat->Int}{l:Ai}{k:Nat}(h:k<l.length):((l.take k).map λy=>qM y a)++[qM (AH l k) a]=(l.take (k+1)).map λy=>qM y a:=by
 have e:AH l k=l[k]:=by rw [AH,List.getD_eq_getElem?_getD,List.getElem?_eq_getElem h];rfl
 rw [List.take_add_one,List.getElem?_eq_getElem h,e,List.map_append]
 rfl
theorem Vz{a:Nat->Int}(h:∀j,j<8->0<=a j):CZ a 8=((BQ 8 0 a:Nat):Int):=by
 have h0:=h 0 (by omega);have h1:=h 1 (by omega);have h2:=h 2 (by omega);have h3:=h 3 (by omega)
 have h4:=h 4 (by omega);have h5:=h 5 (by omega);have h6:=h 6 (by omega);have h7:=h 7 (by omega)
 simp only [CZ,BQ,Nat.zero_add,Nat.reduceAdd]
 omega
theorem A3k{a:Nat->Int}(h:In8 a 0 64):BQ 8 0 a<=512:=by
 have h0:=h 0 (by omega);have h1:=h 1 (by omega);have h2:=h 2 (by omega);have h3:=h 3 (by omega)
 have h4:=h 4 (by omega);have h5:=h 5 (by omega);have h6:=h 6 (by omega);have h7:=h 7 (by omega)
 simp only [BQ,Nat.zero_add,Nat.reduceAdd]
 omega
def mX(n1 d i:Nat):Nat:=if i=0 then n1 else max n1 (d+i)
def kX(f1 f2:Nat->Int)(d i:Nat)(t:Nat):Int:=f1 t-if d<=t/\t<d+i then f2 (t-d) else 0
theorem Vm(f1 f2:Nat->Int)(d:Nat):kX f1 f2 d 0=f1:=by
 funext t
 have:¬(d<=t/\t<d+0):=by omega
 rw [kX,if_neg this,Int.sub_zero]
theorem Vn(f1 f2:Nat->Int)(d i:Nat):(λj=>if j=i+d then kX f1 f2 d i (i+d)-f2 i else kX f1 f2 d i j)=kX f1 f2 d (i+1):=by
 funext t
 by_cases h:t=i+d
 .subst h
  rw [if_pos rfl,kX,kX,if_neg (by omega),if_pos (by omega),Int.sub_zero,show i+d-d=i by omega]
 .rw [if_neg h,kX,kX]
  by_cases h2:d<=t/\t<d+i
  .rw [if_pos h2,if_pos (by omega)]
  .rw [if_neg h2,if_neg (by omega)]
theorem ZB{f1 f2:Nat->Int}{n1 d i m:Nat}(z1:∀i,n1<=i->f1 i=0)(h:mX n1 d i<=m):kX f1 f2 d i m=0:=by
 have h1:n1<=m:=by unfold mX at h;split at h<;>omega
 have h2:¬(d<=m/\m<d+i):=by unfold mX at h;split at h<;>omega
 rw [kX,if_neg h2,z1 m h1,Int.sub_zero]
theorem ZC{f1 f2:Nat->Int}{n2 d:Nat}(z2:∀i,n2<=i->f2 i=0):kX f1 f2 d n2=λt=>f1 t-Fg d f2 t:=by
 funext t
 rw [kX,Fg]
 by_cases h:d<=t
 .rw [if_pos h]
  by_cases h2:t<d+n2
  .rw [if_pos ⟨h,h2⟩]
  .rw [if_neg (λh=>h2 h.2),z2 _ (by omega)]
 .rw [if_neg (λh'=>h h'.1),if_neg h]
theorem Vd(n1 d i:Nat):mX n1 d (i+1)=max (mX n1 d i) (i+d+1):=by
 unfold mX
 split<;>split<;>omega
theorem Ve{n1 d i:Nat}(h1:n1<=10000)(hd:d<=512)(hi:i<=10000):mX n1 d i<=20000:=by
 unfold mX
 split<;>omega
theorem A2A(y a:Nat->Int)(h:∀j,j<8->0<=y j)(j:Nat)(hj:j<8):0<=qM y a j:=by
 have:=h j hj
 unfold qM
 omega
theorem Zc(a:Nat->Int)(l:Ai)(n1 n2:Nat)(f1 f2:Nat->Int)(hz:HA a (λ_=>0)=false)(hl:l.length<=12)(ha:In8 a 0 64)(hll:∀y∈l,In8 y 0 64)(c1:OfC l n1 f1)(c2:OfC (HW (l.map λy=>qM y a)) n2 f2)(h1:0<n1)(hn1:n1<=10000)(hn2:n2<=10000)(b1:∀i,-100000<=f1 i/\f1 i<=100000)(b2:∀i,-100000<=f2 i/\f2 i<=100000)(z1:∀i,n1<=i->f1 i=0)(z2:∀i,n2<=i->f2 i=0) :
  OfW (a::l) (FM (λd=>f1 d-Fg (BQ 8 0 a) f2 d) (mX n1 (BQ 8 0 a) n2)) (λd=>f1 d-Fg (BQ 8 0 a) f2 d):=by
 have hd0:=A3k ha
 have cdeg:Abs Tryz.prog 94 [Bb (AK a)] (ex (.int .i64 (BQ 8 0 a:Nat))):=Vz (λj hj=>(ha j hj).1)▸Qy a (ha.mono (by omega) (by omega))
 generalize hdd:BQ 8 0 a=d at hd0 cdeg ⊢
 have c2':=c2
 refine BK Tryz.func90 rfl (Az Tryz.func90 (by kernel_rfl) (by kernel_rfl)) rfl λs0 pv0=>?_
 rw [Tryz.ntmps90]
 refine Y1<|Wa<|Y0<|Aa<|Y1<|Wm ?_;refine Wq AR ?_;refine Wq Aj ?_;refine Y0<|Cf<|Ys<|Aa<|Y1<|Wm ?_;refine Wq NT ?_;refine Wq AB ?_;(refine CD rfl rfl ?_;(refine FK (Ac rfl) (Ac rfl) rfl rfl ?_;(repeat ((first | refine ⟨_,AW (ao rfl),?_⟩ | refine ⟨_,Po rfl,?_⟩);refine ⟨_,rfl,?_⟩));refine ⟨_,rfl,?_⟩));refine Wq (XO (b:=λ_=>0) (ao rfl) (ao rfl) hz) ?_;refine Y0<|Cf<|Ys<|Aa ?_
 refine PN ⟨[(1,.ptr 0 0),(4,.ptr 2 0),(5,.d (AZ l))],[.var 80 [.fn 90 [0]],.pin [(pv0,.own 0)],.var 55 ((AK a).map .d)]⟩ ?_ ?_
 .refine AWp.any (by kernel_rfl) ?_
  refine Fa 0 rfl rfl rfl (by kernel_rfl) (by kernel_rfl) (by kernel_rfl) rfl (PureQ.move rfl (ao rfl)) ?_
  refine Fa 1 rfl rfl rfl (by kernel_rfl) (by kernel_rfl) (by kernel_rfl) rfl (PureQ.index (i:=0) (rows:=(a::l).map AK) rfl rfl (ao rfl) (Ac rfl) (Ac rfl) rfl (by omega) (by simp)) ?_
  refine Fa 3 rfl rfl rfl (by kernel_rfl) (by kernel_rfl) (by kernel_rfl) rfl (PureQ.move rfl (ao rfl)) ?_
  refine Fa 4 rfl rfl rfl (by kernel_rfl) (by kernel_rfl) (by kernel_rfl) rfl (RW (f:=AK) (l:=a::l) (i:=1) rfl rfl (ao rfl) (Ac rfl) (Ac rfl) rfl (by simp)) ?_
  refine HU 2 5 [5,6,7] [2,6,7] (by kernel_rfl) (by kernel_rfl) (by kernel_rfl) (by kernel_rfl) (by kernel_rfl) rfl rfl ?_ ?_
  .refine Wq AB ?_;refine Al ?_;refine Sf ?_;refine Wa<|AWl.nil ?_;apply OnlyN.mk';apply OnlyN.mk'
   exact Ah (by exact Yp<|Yp<|Yd<|FrLe.nil) (by exact HpLe.cons (Ce rfl)<|HpLe.cons (Bi rfl)<|Yv<|HpLe.nil)
  .refine Al ?_;refine Wq AB ?_;refine Sf ?_;refine Wa<|AWl.nil ?_;apply OnlyN.mk';apply OnlyN.mk'
   exact Ah (by exact Yp<|Yp<|Yd<|FrLe.nil) (by exact HpLe.cons (Ce rfl)<|HpLe.cons (Bi rfl)<|Yv<|HpLe.nil)
 .refine Yn<|Y1<|Wa<|Y0<|Aa<|Y1<|Wm ?_;refine Wq AR ?_;refine Wm<|Y0<|AWp.block ?_
  refine GF 6 55 8 rfl (by decide) (by decide) rfl rfl ?_
  refine AC (λmz σ=>∃k,k<=l.length/\mz=l.length-k/\σ=⟨[(1,.ptr 0 0),(4,.ptr 2 0),(5,.d (AZ l)),(6,.own 3),(29,.d (AZ l)),(30,.d (ex (.int .i64 (l.length:Nat)))),(31,.d (ex (.int .i64 (k:Nat))))],[.var 80 [.fn 90 [0]],.pin [(pv0,.own 0)],.var 55 ((AK a).map .d),.row 55 8 ((((l.take k).map λy=>qM y a)).map AK)]⟩) ?le ⟨0,by omega,rfl,rfl⟩ ?round
  case le=>exact Ah (by exact Yp<|Yp<|Yd<|FrLe.cons rfl (AVle.own rfl)<|Yd<|Yd<|Yd<|FrLe.nil) (by exact HpLe.cons (Ce rfl)<|HpLe.cons (Bi rfl)<|Yv<|Yr<|HpLe.nil)
  case round=>
   rintro mz _ ⟨k,hk,rfl,rfl⟩
   by_cases hlt:k<l.length
   .have hy:In8 (AH l k) 0 64:=hll _ (Cg hlt)
    have hy2:In8 (AH l k) 0 100000:=hy.mono (by omega) (by omega)
    have hgi:In8 (Qr (AH l k) a) 0 100000:=λj hj=>by
     have h1:=hy j hj
     have h2:=ha j hj
     show 0<=min (AH l k j) (a j)/\min (AH l k j) (a j)<=100000
     omega
    have hq:Abs Tryz.prog 91 [Bb (AK (AH l k)),Bb (AK (Qr (AH l k) a))] (BC [Bb (AK (qM (AH l k) a)),ex (.bool true)]):=Zv (AH l k) (Qr (AH l k) a) (A1x _ _) hgi hy2
    apply Y1;refine Wq Ak ?_;refine Y0<|Aa<|Ct<|Ys<|Aa<|AWp.block<|Y1 ?_;refine Wq AE ?_;refine Wq AB ?_;refine Al ?_;refine Sf ?_;refine Y0<|Aa ?_
    refine Lf (JE (e:=7) (by kernel_rfl) (K4 (K4 (AddE.keep (AddE.add (AddE.keep AddE.nil))))) (by kernel_rfl)) [[],[],[],[(37,1),(38,2)],[(36,0),(39,3)],[(40,4)],[(35,5)],[(35,5)],[]] [[],[],[],[1,2],[0,1,2,3],[0,1,2,3,4],[0,1,2,3,4,5],[0,1,2,3,4,5],[]] rfl (by kernel_rfl) (by kernel_rfl) (by kernel_rfl) ?_
    refine Xq At ?_;refine Xq At ?_;refine Xq At ?_;refine Xq (Ad (Zw (AH l k) a)) ?_;refine Xq (Ad (hq)) ?_;refine Xq Af ?_;refine Xq AI ?_;refine Xq AI ?_;refine Xn ?_;refine ⟨_,rfl,?_⟩
    refine Sf ?_;refine Wa<|AWl.nil ?_;apply OnlyN.mk';refine Yn<|AWp.region<|Wm ?_;refine Wq At ?_;refine Wq (BF (ao rfl) (Ac rfl) (Ac rfl) rfl rfl rfl rfl rfl) ?_;(refine Ap ?_);refine Wa<|AWl.nil<|Ag<|Yn<|AWp.region ?_;refine Wq AD ?_;refine Wm<|AWl.nil ?_
    refine ALoop.next (l.length-(k+1)) (by omega) ⟨k+1,by omega,rfl,rfl⟩ ?_
    exact Ah (by exact Yp<|Yp<|Yd<|FrLe.cons rfl (AVle.own rfl)<|Yd<|Yd<|Yd<|FrLe.nil) (by refine HpLe.cons (Ce rfl) ?_;refine HpLe.cons (Bi rfl) ?_;apply Yv;refine HpLe.cons (Ca ((CJ AK _ (qM (AH l k) a)).trans (by rw [MI hlt]))) ?_;exact HpLe.nil)
   .obtain rfl:k=l.length:=by omega
    apply Y1;refine Wq Aj ?_;refine Y0<|Aa<|Cf<|AA<|Aq<|Ar<|ABlock.hit<|Yn<|Y1 ?_
    refine CD rfl rfl ?_;refine ⟨_,Cy (ao rfl) rfl GN rfl rfl,?_⟩
    refine Wm ?_
    refine Kk [0] [0] (c1) ?_
    rintro _ _ ⟨rfl,rfl⟩
    refine Kr ?_
    try simp only [Bd,Bt]
    skip
    refine Kk [] [] (Tl n1 f1 h1 (by omega)) ?_
    rintro _ _ ⟨g,c,hc1,hc2,rfl,rfl⟩
    refine Kr ?_
    try simp only [Bd,Bt]
    refine Wa<|Y0<|Y1 ?_;refine Wq At ?_;refine Wq (Ad (cdeg)) ?_;refine Wa<|Y0<|Aa<|Aa ?_
    have cm:Abs Tryz.prog 95 [AZ ((l.take l.length).map λy=>qM y a)] (AZ (HW (l.map λy=>qM y a))):=by
     rw [List.take_length]
     refine PI (l.map λy=>qM y a) (by rw [List.length_map];omega) λx hx j hj=>?_
     obtain ⟨y,hy,rfl⟩:=List.mem_map.1 hx
     exact A2A y a (λj hj=>(hll y hy j hj).1) j hj
    refine PN ⟨[(11,.d (sX g n1 c)),(12,.d (ex (.int .i64 (d:Nat)))),(57,.d (nD n2 f2)),(58,.d (ex (.int .i64 (n2:Nat)))),(59,.d (ex (.int .i64 ((0:Nat):Int))))],[.var 80 [.fn 90 [0]],.pin [(pv0,.own 0)],.dead,.dead,.dead,.dead,.obj (BN [⟨g,3,nC f1 n1⟩] [c*1])]⟩ ?_ ?_
    .refine AWp.any (by kernel_rfl) ?_
     refine Fa 1 rfl rfl rfl (by kernel_rfl) (by kernel_rfl) (by kernel_rfl) rfl (PureQ.move rfl (ao rfl)) ?_
     refine Fa 5 rfl rfl rfl (by kernel_rfl) (by kernel_rfl) (by kernel_rfl) rfl (PureQ.move rfl (ao rfl)) ?_
     refine HU 0 2 [2,3,4] [0,3,4] (by kernel_rfl) (by kernel_rfl) (by kernel_rfl) (by kernel_rfl) (by kernel_rfl) rfl rfl ?_ ?_
     .refine Wq (Cy (ao rfl) rfl GN rfl rfl) ?_;refine Wq (Ad (cm)) ?_
      refine Kk [0] [0] (c2) ?_
      rintro _ _ ⟨rfl,rfl⟩
      refine Kr ?_
      try simp only [Bd,Bt]
      refine Wq (BX rfl (Ac rfl)) ?_;apply AWl.nil;apply OnlyN.mk';apply OnlyN.mk'
      exact Ah (by exact Yd<|Yd<|Yd<|Yd<|Yd<|FrLe.nil) (by exact HpLe.cons (Ce rfl)<|HpLe.cons (Bi rfl)<|HpLe.cons (OwLe.dead)<|HpLe.cons (OwLe.dead)<|HpLe.cons (OwLe.dead)<|HpLe.cons (OwLe.dead)<|HpLe.cons (OwLe.obj rfl)<|HpLe.nil)
     .refine Wq (Ad (cm)) ?_;refine Wq (Cy (ao rfl) rfl GN rfl rfl) ?_
      refine Kk [0] [0] (c2) ?_
      rintro _ _ ⟨rfl,rfl⟩
      refine Kr ?_
      try simp only [Bd,Bt]
      refine Wq (BX rfl (Ac rfl)) ?_;apply AWl.nil;apply OnlyN.mk';apply OnlyN.mk'
      exact Ah (by exact Yd<|Yd<|Yd<|Yd<|Yd<|FrLe.nil) (by exact HpLe.cons (Ce rfl)<|HpLe.cons (Bi rfl)<|HpLe.cons (OwLe.dead)<|HpLe.cons (OwLe.dead)<|HpLe.cons (OwLe.dead)<|HpLe.cons (OwLe.dead)<|HpLe.cons (OwLe.obj rfl)<|HpLe.nil)
    .refine Yn<|AWp.block ?_
     refine AC (λmz σ=>∃i,i<=n2/\mz=n2-i/\∃g2 c2,mX n1 d i<=c2/\c2<=9223372036854775807/\σ=⟨[(11,.d (sX g2 (mX n1 d i) c2)),(12,.d (ex (.int .i64 (d:Nat)))),(57,.d (nD n2 f2)),(58,.d (ex (.int .i64 (n2:Nat)))),(59,.d (ex (.int .i64 (i:Nat))))],[.var 80 [.fn 90 [0]],.pin [(pv0,.own 0)],.dead,.dead,.dead,.dead,.obj (BN [⟨g2,3,nC (kX f1 f2 d i) (mX n1 d i)⟩] [c2*1])]⟩) ?le ⟨0,by omega,rfl,g,c,hc1,hc2,rfl⟩ ?round
     case le=>exact Ah (by exact Yd<|Yd<|Yd<|Yd<|Yd<|FrLe.nil) (by refine HpLe.cons (Ce rfl) ?_;refine HpLe.cons (Bi rfl) ?_;refine HpLe.cons (OwLe.dead) ?_;refine HpLe.cons (OwLe.dead) ?_;refine HpLe.cons (OwLe.dead) ?_;refine HpLe.cons (OwLe.dead) ?_;(refine HpLe.cons (OwLe.obj (by rw [Vm];rfl)) ?_);exact HpLe.nil)
     case round=>
      rintro mz _ ⟨i,hi,rfl,g2,c2,hc3,hc4,rfl⟩
      by_cases hlt:i<n2
      .apply Y1;refine Wq Ak ?_;refine Y0<|Aa<|Ct<|Ys<|Aa<|AWp.block<|Y1<|Wm ?_;refine Wq (FI (k:=i) rfl (ao rfl) (Ac rfl) (Ac rfl) rfl hlt) ?_;refine Wq CA ?_;refine Wa<|Wa<|Y0<|Aa<|AWp.block ?_
       have hmx:=Ve (n1:=n1) (d:=d) (i:=i) hn1 hd0 (by omega)
       refine AC (λmz σ=>∃m,mX n1 d i<=m/\m<=max (mX n1 d i) (i+d+1)/\mz=100000-m/\∃g2 c2,m<=c2/\c2<=9223372036854775807/\σ=⟨[(11,.d (sX g2 m c2)),(12,.d (ex (.int .i64 (d:Nat)))),(13,.d (ex (.int .i64 (i:Nat)))),(14,.d (ex (.int .i64 (f2 i)))),(57,.d (nD n2 f2)),(58,.d (ex (.int .i64 (n2:Nat)))),(59,.d (ex (.int .i64 (i:Nat))))],[.var 80 [.fn 90 [0]],.pin [(pv0,.own 0)],.dead,.dead,.dead,.dead,.obj (BN [⟨g2,3,nC (kX f1 f2 d i) m⟩] [c2*1])]⟩) ?le2 ⟨mX n1 d i,by omega,by omega,rfl,g2,c2,hc3,hc4,rfl⟩ ?round2
       case le2=>exact Ah (by exact Yd<|Yd<|Yd<|Yd<|Yd<|Yd<|Yd<|FrLe.nil) (by exact HpLe.cons (Ce rfl)<|HpLe.cons (Bi rfl)<|HpLe.cons (OwLe.dead)<|HpLe.cons (OwLe.dead)<|HpLe.cons (OwLe.dead)<|HpLe.cons (OwLe.dead)<|HpLe.cons (OwLe.obj rfl)<|HpLe.nil)
       case round2=>
        rintro mz _ ⟨m,hm1,hm2,rfl,g2,c2,hc3,hc4,rfl⟩
        by_cases hle:m<=i+d
        .refine Aa<|Aa<|AWp.region<|Wm ?_; refine Wq (Dq (ao rfl) (Ac rfl)) ?_; refine Wm<|Wm ?_; refine Wq CC ?_; refine Wq Ak ?_; refine AWl.nil<|Yn<|Ct<|AWp.skip<|Yn<|AWp.block<|AWp.region<|Wm ?_; (refine CD rfl rfl ?_; (refine Cl (Ac rfl) (Ac rfl) rfl rfl rfl rfl rfl ?_; (repeat ((first | refine ⟨_, AW (ao rfl), ?_⟩ | refine ⟨_, Po rfl, ?_⟩); refine ⟨_, rfl, ?_⟩)); refine ⟨_, rfl, ?_⟩))
         have hsn:=UX (f:=kX f1 f2 d i) (n:=m) (ZB z1 hm1)
         refine PL (sz:=1) (r:=[ex (.int .i64 0)]) 6 0 (ao rfl) rfl rfl rfl (by rw [Hd,Nat.mul_one]) (by decide) hc3 hc4 rfl rfl (Ac rfl) (Ac rfl) rfl rfl (by omega) (by omega) (λg c=>rfl) λg3 c3 hd1 hd2=>?_
         refine Wa<|AWl.nil<|Ag ?_
         refine ALoop.next (100000-(m+1)) (by omega) ⟨m+1,by omega,by omega,rfl,g3,c3,hd1,hd2,rfl⟩ ?_
         exact Ah (by exact Yd<|Yd<|Yd<|Yd<|Yd<|Yd<|Yd<|FrLe.nil) (by refine HpLe.cons (Ce rfl) ?_;refine HpLe.cons (Bi rfl) ?_;refine HpLe.cons (OwLe.dead) ?_;refine HpLe.cons (OwLe.dead) ?_;refine HpLe.cons (OwLe.dead) ?_;refine HpLe.cons (OwLe.dead) ?_;(refine HpLe.cons (OwLe.obj (by show BN [⟨g3,_,nC (kX f1 f2 d i) m++[ex (.int .i64 0)]⟩] _=_;rw [hsn];rfl)) ?_);exact HpLe.nil)
        .have hm:m=mX n1 d (i+1):=by rw [Vd]; omega
         refine Aa<|Y1<|Wm ?_;refine Wq (Dq (ao rfl) (Ac rfl)) ?_;refine Wm<|Wm ?_;refine Wq CC ?_;refine Wq Aj ?_;refine Y0<|Cf<|AA<|Aq<|Ar<|ABlock.hit<|Yn<|AWp.region<|Wm<|Wm<|Wm ?_;refine Wq CC ?_
         have hlt2:i+d<m:=by omega
         have hk0:kX f1 f2 d i (i+d)=f1 (i+d):=by rw [kX,if_neg (by omega),Int.sub_zero]
         have hb1:=b1 (i+d)
         have hb2:=b2 i
         rw [<-hk0] at hb1
         have hst:SetAt (nC (kX f1 f2 d i) m) ((i+d)*1) [ex (.int .i64 (kX f1 f2 d i (i+d)-f2 i))] (nC (kX f1 f2 d (i+1)) m):=Vn f1 f2 d i▸OP hlt2
         refine Wq (CN (k:=i+d) (ao rfl) (ao rfl) (Ac rfl) (Ac rfl) hlt2) ?_;refine Wq (HN 6 0 (ao rfl) rfl rfl (Ac rfl) rfl (Fj hlt2)) ?_;refine Wm ?_;refine Wq DV ?_;refine Wq (CN (k:=i+d) (ao rfl) (ao rfl) (Ac rfl) (Ac rfl) hlt2) ?_;refine MC 6 0 (ao rfl) (ao rfl) rfl rfl (Ac rfl) (CH rfl) hst rfl ?_;refine AWl.nil<|Ag<|Yn<|AWp.region ?_;refine Wq AD ?_;refine Wm<|AWl.nil ?_
         subst hm
         refine ALoop.next (n2-(i+1)) (by omega) ⟨i+1,by omega,rfl,g2,c2,hc3,hc4,rfl⟩ ?_
         exact Ah (by exact Yd<|Yd<|Yd<|Yd<|Yd<|FrLe.nil) (by exact HpLe.cons (Ce rfl)<|HpLe.cons (Bi rfl)<|HpLe.cons (OwLe.dead)<|HpLe.cons (OwLe.dead)<|HpLe.cons (OwLe.dead)<|HpLe.cons (OwLe.dead)<|HpLe.cons (OwLe.obj rfl)<|HpLe.nil)
      .obtain rfl:n2=i:=by omega
       apply Y1;refine Wq Aj ?_;refine Y0<|Aa<|Cf<|AA<|Aq<|Ar<|ABlock.hit<|Yn<|Y1<|Wm ?_
       have hmx:=Ve (n1:=n1) (d:=d) (i:=n2) hn1 hd0 hn2
       rw [ZC (f1:=f1) (d:=d) z2]
       refine Kk [6] [] (PO (λt=>f1 t-Fg d f2 t) (mX n1 d n2) (mX n1 d n2) g2 c2 [c2*1] (Nat.le_refl _) hc3 (by omega)) ?_
       rintro _ _ ⟨rfl,rfl⟩
       refine Kr ?_
       try simp only [Bd,Bt]
       refine Wa<|Y0<|Am ?_
       refine Bv (RetsA.one rfl) rfl ?_ rfl
       exact ⟨g2,c2,mX n1 d n2,Lj _ _,hc3,by omega,hc4,rfl,rfl⟩
theorem Con.le{P:Program}{f:FuncId}{args:List AV}{hp:List Ow}{lost:List Nat}{Q Q':AV->List Ow->Prop}(h:Con P f args hp lost Q)(hQ:∀r hp',Q r hp'->∃(x R:D),r = .d x/\D.le x R/\Q' (.d R) hp'):Con P f args hp lost Q':=by
 refine ⟨h.1,λs ρ vs h1 h2 h3 h4 h5=>(h.2 s ρ vs h1 h2 h3 h4 h5).mono λe w' ⟨v,he,s',ρ',r,hp',hq,hw,hr,ha⟩=>?_⟩
 obtain ⟨x,R,rfl,hle,hq'⟩:=hQ r hp' hq
 exact ⟨v,he,s',ρ',.d R,hp',hq',hw,hle _ _ hr,ha⟩
theorem QA{a b c:Nat->Int}(h1:lx a b<=0)(h2:lx b c<=0):lx a c<=0:=by
 have e1:=DR a b;have e2:=DR b c;have e3:=DR a c
 have h3:0<=lx c b:=by omega
 have h4:0<=lx b a:=by omega
 have:=(Io h3 h4).1
 have:0<=lx c a:=this
 omega
theorem LM:∀(l R:Ai),(EH R l).length<=R.length+l.length
 | [],R=>by simp [EH]
 | m::l,R=>by
  rw [EH]
  split
  .have:=LM l R
   simp only [List.length_cons]
   omega
  .have:=LM l (R++[m])
   simp only [List.length_cons,List.length_append,List.length_nil] at this ⊢
   omega
theorem SameM.len{l l':Ai}(h:SameM l l'):l.length=l'.length:=h.length
theorem OR{l:Ai}(hn:∀a∈l,∀j,j<8->0<=a j):IsMin l (HW l)/\(HW l).length<=l.length:=by
 have hs:(l.mergeSort λa b=>decide (lx a b<=0)).Pairwise λa b=>lx a b<=0:=by
  have:=List.pairwise_mergeSort (le:=λa b=>decide (lx a b<=0)) (λa b c h1 h2=>by
   simp only [decide_eq_true_eq] at h1 h2 ⊢
   exact QA h1 h2) (λa b=>by
   simp only [Bool.or_eq_true,decide_eq_true_eq]
   have:=DR a b
   omega) l
  exact this.imp λh=>by simpa using h
 have h:=QJ (l:=l) (s:=l.mergeSort λa b=>decide (lx a b<=0)) (λx=>List.mem_mergeSort) hn hs
 refine ⟨KO h,?_⟩
 rw [(KO h).same h |>.len,List.length_reverse]
 have:=LM (l.mergeSort λa b=>decide (lx a b<=0)) []
 rw [List.length_mergeSort] at this
 simpa using this
def A3L(l:Ai):Prop:=l.Pairwise λa b=>¬Dv a b/\¬Dv b a
theorem IsMin.noDv{l R:Ai}(h:IsMin l R):A3L R:=by
 have ha:=h.anti
 refine List.Pairwise.imp_of_mem (λ{a b} h1 h2 h3=>⟨λhd=>?_,λhd=>?_⟩) h.1
 .have:=EO.2 (ha a h1 b h2 hd)
  omega
 .have:=EO.2 (ha b h2 a h1 hd)
  have:=DR a b
  omega
theorem In8.min{l:Ai}{lo hi:Int}(h:∀a∈l,In8 a lo hi)(hn:∀a∈l,∀j,j<8->0<=a j):∀a∈HW l,In8 a lo hi:=λa ha=>by
 obtain ⟨⟨b,hb,e⟩,_⟩:=((OR hn).1.2 a).1 ⟨a,ha,Eqv.refl a⟩
 exact λj hj=>e j hj▸h b hb j hj
theorem Mk{a:Nat->Int}{hi:Int}(h:In8 a 0 hi):SupN 8 a:=λj hj=>⟨(h j hj).1,λh'=>absurd hj (by omega)⟩
theorem A4e{y a:Nat->Int}{hi:Int}(h:In8 y 0 hi)(ha:In8 a 0 hi):In8 (qM y a) 0 hi:=λj hj=>by
 have h1:=h j hj
 have h2:=ha j hj
 unfold qM
 omega
theorem VA{l:Ai}{Dg:Nat}(h:∀a∈l,BQ 8 0 a<=Dg)(hn:∀a∈l,∀j,j<8->0<=a j):∀a∈HW l,BQ 8 0 a<=Dg:=λa ha=>by
 obtain ⟨⟨b,hb,e⟩,_⟩:=((OR hn).1.2 a).1 ⟨a,ha,Eqv.refl a⟩
 exact Nat.le_trans (JW λj _ hj=>Int.le_of_eq (e j (by omega)).symm) (h b hb)
theorem A3j{y a:Nat->Int}{Dg:Nat}(h:BQ 8 0 y<=Dg)(hy:In8 y 0 64)(ha:In8 a 0 64):BQ 8 0 (qM y a)<=Dg:=
 Nat.le_trans (JW λj _ hj=>by
  have h1:=hy j (by omega)
  have h2:=ha j (by omega)
  unfold qM
  omega) h
theorem ON(Dg:Nat)(hD:Dg<=512):∀(k:Nat) (l:Ai),l.length<=k->k<=12->(∀y∈l,In8 y 0 64)->(∀y∈l,BQ 8 0 y<=Dg)->A3L l->∃n f,OfC l n f/\NumL l n f/\n<=1+Dg*k/\(∀i,-(2^k:Int)<=f i/\f i<=2^k)/\(l=[]\/n=0\/OfW l n f)
 | k,[],_,_,_,_,_=>⟨1,_,A37,NumL.nil,Nat.le_add_right 1 _,λi=>by
  have:(1:Int)<=2^k:=Int.pow_pos (by decide)
  show -(2^k:Int)<=(if i=0 then (1:Int) else 0)/\(if i=0 then (1:Int) else 0)<=2^k
  split<;>omega,.inl rfl⟩
 | 0,_::_,h,_,_,_,_=>by simp at h
 | k+1,a::l,hl,hk,hi,hg,hd=>by
  have hl':l.length<=k:=by simpa using hl
  have hp:(1:Int)<=2^k:=Int.pow_pos (by decide)
  have hp1:(2:Int)^(k+1)=2^k+2^k:=by rw [Int.pow_succ];omega
  have hDk:Dg*(k+1)=Dg*k+Dg:=Nat.mul_succ Dg k
  have hDk2:Dg*k<=512*11:=Nat.mul_le_mul hD (by omega)
  have hia:=hi a List.mem_cons_self
  have hga:=hg a List.mem_cons_self
  have hil:∀y∈l,In8 y 0 64:=λy hy=>hi y (List.mem_cons_of_mem _ hy)
  have hgl:∀y∈l,BQ 8 0 y<=Dg:=λy hy=>hg y (List.mem_cons_of_mem _ hy)
  cases hz:HA a (λ_=>0) with
  | true=>
   refine ⟨0,λ_=>0,?_,NumL.one List.mem_cons_self (Da.1 hz),by omega,λi=>by show -(2^(k+1):Int)<=0/\(0:Int)<=2^(k+1);omega,.inr (.inl rfl)⟩
   exact (A36 a l hz (by omega)).le λr hp' ⟨h1,h2⟩=>⟨_,nD 0 λ_=>0,h1,Dw,rfl,h2⟩
  | false=>
   have hdl:A3L l:=(List.pairwise_cons.1 hd).2
   obtain ⟨n1,f1,c1,m1,e1,g1,_⟩:=ON Dg hD k l hl' (by omega) hil hgl hdl
   have hqn:∀x∈l.map (λy=>qM y a),In8 x 0 64:=λx hx=>by
    obtain ⟨y,hy,rfl⟩:=List.mem_map.1 hx
    exact A4e (hil y hy) hia
   have hqg:∀x∈l.map (λy=>qM y a),BQ 8 0 x<=Dg:=λx hx=>by
    obtain ⟨y,hy,rfl⟩:=List.mem_map.1 hx
    exact A3j (hgl y hy) (hil y hy) hia
   have hqn0:∀x∈l.map (λy=>qM y a),∀j,j<8->0<=x j:=λx hx j hj=>(hqn x hx j hj).1
   obtain ⟨hmin,hml⟩:=OR hqn0
   rw [List.length_map] at hml
   obtain ⟨n2,f2,c2,m2,e2,g2,_⟩:=ON Dg hD k (HW (l.map λy=>qM y a)) (by omega) (by omega) (In8.min hqn hqn0) (VA hqg hqn0) hmin.noDv
   have h0:0<n1:=by
    rcases Nat.eq_zero_or_pos n1 with h | h
    .subst h
     obtain ⟨b,hb,hb0⟩:=m1.whole λy hy=>Mk (hil y hy)
     exact absurd (λj hj=>by rw [hb0 j hj];exact (hia j hj).1) ((List.pairwise_cons.1 hd).1 b hb).2
    .exact h
   have hpk:(2:Int)^k<=2048:=by
    have:k<=11:=by omega
    have h2:2^k<=2^11:=Nat.pow_le_pow_right (by decide) this
    exact_mod_cast h2
   have hcc:=Zc a l n1 n2 f1 f2 hz (by omega) hia hil c1 c2 h0 (by omega) (by omega) (λi=>by have:=g1 i;omega) (λi=>by have:=g2 i;omega) m1.far m2.far
   refine ⟨_,_,hcc.ofC,m1.cons m2 hmin (λy hy=>Mk (hil y hy)) (Mk hia) _ ?_ ?_,?_,λi=>?_,.inr (.inr hcc)⟩
   .unfold mX
    split<;>omega
   .unfold mX
    split<;>omega
   .refine Nat.le_trans (Lj _ _) ?_
    unfold mX
    split<;>omega
   .have:=Wx g1 g2 (by omega) (BQ 8 0 a) i
    rw [hp1]
    exact this
theorem One.fn{hp:List Ow}{f:FuncId}{caps:List Nat}:One hp (.fn f caps):=λ_ _ _ v _ hv=>by
 obtain ⟨_,rfl⟩:=hv
 rfl
theorem Zf(l R:Ai)(n:Nat)(f:Nat->Int)(cm:Abs Tryz.prog 95 [AZ l] (AZ R))(c:OfC R n f):Abs Tryz.prog 47 [AZ l] (nD n f):=by
 refine Ab Tryz.func47 λs0=>?_
 rw [Tryz.ntmps47]
 refine Y1<|Wa<|Y0<|Y1 ?_;refine MD GN rfl rfl rfl rfl rfl rfl ?_;refine Y0<|Y1 ?_;refine Wq (FW [0] rfl) ?_;refine JG (ao rfl) (ao rfl) rfl GN One.fn rfl rfl ?_;refine Y0<|Aa ?_
 refine PN ⟨[(2,.d (nD n f))],[]⟩ ?_ ?_
 .refine AWp.any (by kernel_rfl) ?_
  refine Fa 1 rfl rfl rfl (by kernel_rfl) (by kernel_rfl) (by kernel_rfl) rfl (PureQ.move rfl (ao rfl)) ?_
  refine HU 0 2 [2,3,4] [0,3,4] (by kernel_rfl) (by kernel_rfl) (by kernel_rfl) (by kernel_rfl) (by kernel_rfl) rfl rfl ?_ ?_
  .refine Wq (Cy (ao rfl) rfl GN rfl rfl) ?_;refine Wq (Ad (cm)) ?_
   refine Kk [0] [0] (c) ?_
   rintro _ _ ⟨rfl,rfl⟩
   refine Kr ?_
   try simp only [Bd,Bt]
   refine Wa<|AWl.nil ?_;apply OnlyN.mk';apply OnlyN.mk'
   exact Ah (by exact Yd<|FrLe.nil) (by exact HpLe.nil)
  .refine Wq (Ad (cm)) ?_;refine Wq (Cy (ao rfl) rfl GN rfl rfl) ?_
   refine Kk [0] [0] (c) ?_
   rintro _ _ ⟨rfl,rfl⟩
   refine Kr ?_
   try simp only [Bd,Bt]
   refine Wa<|AWl.nil ?_;apply OnlyN.mk';apply OnlyN.mk'
   exact Ah (by exact Yd<|FrLe.nil) (by exact HpLe.nil)
 .refine Yn<|Am ?_
  exact Yf
theorem NumL.of_min{l R:Ai}{n:Nat}{f:Nat->Int}(h:NumL R n f)(hR:IsMin l R)(hl:∀a∈l,∀j,j<8->0<=a j):NumL l n f:=
 ⟨h.num.ideal (λx _=>(hR.inB hl x).symm) λn hs=>hR.sup hs,h.far,h.last⟩
abbrev A3K(l:Ai)(n:Nat)(f:Nat->Int):Prop:=Con Tryz.prog 47 [.d (AZ l)] [] [] (λr hp'=>∃g c N,n<=N/\N<=c/\N<=100000/\c<=9223372036854775807/\r = .d (sX g n c)/\hp'=[.dead,.dead,.dead,.dead,.dead,.dead,.dead,.obj (BN [⟨g,3,nC f N⟩] [c*1])])
theorem Ze(l R:Ai)(n:Nat)(f:Nat->Int)(cm:Abs Tryz.prog 95 [AZ l] (AZ R))(c:OfW R n f):A3K l n f:=by
 refine GD Tryz.func47 rfl (Az Tryz.func47 (by kernel_rfl) (by kernel_rfl)) rfl λs0=>?_
 rw [Tryz.ntmps47]
 refine Y1<|Wa<|Y0<|Y1 ?_;refine MD GN rfl rfl rfl rfl rfl rfl ?_;refine Y0<|Y1 ?_;refine Wq (FW [1] rfl) ?_;refine JG (ao rfl) (ao rfl) rfl GN One.fn rfl rfl ?_;refine Y0<|Aa ?_
 refine A0S (λσ'=>∃g c N,n<=N/\N<=c/\N<=100000/\c<=9223372036854775807/\σ'=⟨[(2,.d (sX g n c))],[.pin [],.dead,.dead,.dead,.dead,.dead,.dead,.obj (BN [⟨g,3,nC f N⟩] [c*1])]⟩) ?_ ?_
 .refine AWp.any (by kernel_rfl) ?_
  refine Fa 1 rfl rfl rfl (by kernel_rfl) (by kernel_rfl) (by kernel_rfl) rfl (PureQ.move rfl (ao rfl)) ?_
  refine HU 0 2 [2,3,4] [0,3,4] (by kernel_rfl) (by kernel_rfl) (by kernel_rfl) (by kernel_rfl) (by kernel_rfl) rfl rfl ?_ ?_
  .refine Wq (Cy (ao rfl) rfl GN rfl rfl) ?_;refine Wq (Ad (cm)) ?_
   refine Kk [1] [0] (c) ?_
   rintro _ _ ⟨g,c0,N,hn1,hn2,hn4,hn3,rfl,rfl⟩
   refine Kr ?_
   try simp only [Bd,Bt]
   refine Wa<|AWl.nil ?_;apply OnlyN.mk';apply OnlyN.mk'
   refine ⟨_,⟨g,c0,N,hn1,hn2,hn4,hn3,rfl⟩,?_⟩
   exact Ah (by exact Yd<|FrLe.nil) (by exact HpLe.cons (Bi rfl)<|HpLe.cons (OwLe.dead)<|HpLe.cons (OwLe.dead)<|HpLe.cons (OwLe.dead)<|HpLe.cons (OwLe.dead)<|HpLe.cons (OwLe.dead)<|HpLe.cons (OwLe.dead)<|HpLe.cons (OwLe.obj rfl)<|HpLe.nil)
  .refine Wq (Ad (cm)) ?_;refine Wq (Cy (ao rfl) rfl GN rfl rfl) ?_
   refine Kk [1] [0] (c) ?_
   rintro _ _ ⟨g,c0,N,hn1,hn2,hn4,hn3,rfl,rfl⟩
   refine Kr ?_
   try simp only [Bd,Bt]
   refine Wa<|AWl.nil ?_;apply OnlyN.mk';apply OnlyN.mk'
   refine ⟨_,⟨g,c0,N,hn1,hn2,hn4,hn3,rfl⟩,?_⟩
   exact Ah (by exact Yd<|FrLe.nil) (by exact HpLe.cons (Bi rfl)<|HpLe.cons (OwLe.dead)<|HpLe.cons (OwLe.dead)<|HpLe.cons (OwLe.dead)<|HpLe.cons (OwLe.dead)<|HpLe.cons (OwLe.dead)<|HpLe.cons (OwLe.dead)<|HpLe.cons (OwLe.obj rfl)<|HpLe.nil)
 .rintro _ ⟨g,c0,N,hn1,hn2,hn4,hn3,rfl⟩
  refine Yn<|Am ?_
  refine Bv (RetsA.one rfl) rfl ?_ rfl
  exact ⟨g,c0,N,hn1,hn2,hn4,hn3,rfl,rfl⟩
theorem Em(Dg k:Nat)(hD:Dg<=512)(hk:k<=12)(l:Ai)(hl:l.length<=k)(hi:∀y∈l,In8 y 0 64)(hg:∀y∈l,BQ 8 0 y<=Dg):∃n f,Abs Tryz.prog 47 [AZ l] (nD n f)/\NumL l n f/\n<=1+Dg*k/\(∀i,-(2^k:Int)<=f i/\f i<=2^k)/\(l=[]\/n=0\/A3K l n f):=by
 have hnn:∀y∈l,∀j,j<8->0<=y j:=λy hy j hj=>(hi y hy j hj).1
 obtain ⟨hm,hml⟩:=OR hnn
 obtain ⟨n,f,c,h1,h2,h3,h4⟩:=ON Dg hD k (HW l) (by omega) hk (In8.min hi hnn) (VA hg hnn) hm.noDv
 refine ⟨n,f,Zf l (HW l) n f (PI l (by omega) hnn) c,h1.of_min hm hnn,by omega,h3,?_⟩
 rcases h4 with h4 | h4 | h4
 .refine .inl ?_
  cases l with
  | nil=>rfl
  | cons a l=>
   obtain ⟨y,hy,_⟩:=Hx hnn _ a List.mem_cons_self (Nat.le_refl _)
   obtain ⟨b,hb,_⟩:=(hm.2 y).2 hy
   rw [h4] at hb
   cases hb
 .exact .inr (.inl h4)
 .exact .inr (.inr (Ze l (HW l) n f (PI l (by omega) hnn) h4))
section
variable {fr:List (Nat×AV)} {hp hp':List Ow}
theorem MF{T:TypeId}{ds:List D}(id t:Nat)(hh:hp[id]? = some (.var T (ds.map .d)))(hx:CE fr t=some (.ptr id 0))(hs:Do hp id .dead=some hp'):AS.le ⟨fr,hp⟩ ⟨(t,.d (Iw T ds))::fr,hp'⟩:=by
 rw [Cs hs]
 intro s0 n a w ⟨s,ρ,hw,hst⟩
 obtain ⟨g,cs,hρ,hbase,hheap,hsz,hT,hns,hcells⟩:=hst.hp id _ hh
 let s2:GS:=⟨λb k=>s.S b k\/b=g,s.tag,s.w⟩
 have hc2:GS.Chg s s2:=⟨Nat.le_refl _,λ_ _ hk=>.inl hk,λb cs T fz hb=>⟨cs,fz,hb,λ_ _=>rfl⟩⟩
 have hlt:g<s.w.heap.size:=AG hheap
 have hok2:s2.Ok:=⟨λb k hk=>hk.elim (hst.ok.lt b k) λh=>h▸hlt,λb k hty=>.inl (hst.ok.safe b k hty)⟩
 have hblk:OwB s (ρ id) (.var T (ds.map .d)) g:=by show DL (ρ id)=some g;rw [hρ];rfl
 have hle2:GS.LeX s0.mine s0.g s2:=⟨hst.le.os,hst.le.tape,hst.le.output,hst.le.block,hst.le.chg.trans hc2,λb k hb hm hk=>hk.elim (hst.le.old b k hb hm) λhk=>((hst.own id _ b hh (hk▸hblk)).elim hm λh=>absurd hb (by omega)).elim,hst.le.tag,λ_=>hok2⟩
 have hst':=hst.upd (s':=s2) (o':=.dead) (ρ':=ρ) (f:=λx=>x) hle2 hok2 hc2 hh
  (λb _ hnb=>⟨rfl,λk=>⟨λhk=>hk.elim (λh=>h) λh=>absurd (h▸hblk) hnb,λhk=>.inl hk⟩⟩) (λ_ _=>rfl) trivial (λb hb=>hb.elim) λav v h=>h.chg hc2
 rw [En,De] at hst'
 have hst':StI s0 n ⟨fr,hp.set id .dead⟩ a s2 ρ:=hst'
 refine ⟨s2,ρ,hw,⟨hst'.le,hst'.ok,λu av hu=>?_,hst'.sz,hst'.df,hst'.hp,hst'.sep,hst'.own⟩⟩
 rw [Dz] at hu
 split at hu
 .rename_i e
  cases hu
  subst e
  obtain ⟨_,b,e1,e2⟩:=hst.fr t _ hx
  rw [hρ] at e1
  cases e1
  refine ⟨g,0,e2,cs,(0,0),hheap,λk hk=>?_⟩
  have hc:=hcells k (.d (BG ds k)) (by simp [BG,hk])
  obtain ⟨u,g1,g2,g3⟩:=hc
  rw [Nat.zero_add]
  exact ⟨.inr rfl,u,g1,g2,(BG ds k).st g3 hc2⟩
 .exact hst'.fr u av hu
end
section
variable {P:Program} {hp:List Ow} {arg:Operand->AV} {dd:Option Tmp} {ty:TypeId} {ps:String} {af:Array Edge} {gd:Option (Nat×Bool)}
theorem A0u{x:Operand}{t:TypeId}{e n b b' T len:Nat}{d:TypeDesc}{z z':Value}{ds:List D}(hx:arg x = .d (Iw T ds))(ht:Tab P t (.array len e) n b z)(he:Tab P e d 1 b' z')(hl:ds.length=len)(hm:len<=1000):Quiet P hp ⟨dd,.slice t x none none none,ty,ps,af,gd⟩ arg (.d (slD T 1 (ds.map λy=>[y]))):=by
 subst hl
 refine ⟨λbase s ρ ev hok hbs hhp h=>?_⟩
 have h1:=h x (by simp [Op.operands])
 rw [hx] at h1
 obtain ⟨g,p,e1,cs,fz,h2,h3⟩:=h1
 have e1:ev x = .pointer (some ⟨g,p,none⟩):=e1
 refine Bk (v:=.slice (some ⟨g,p,none⟩) ds.length ds.length) ?_ ⟨GS.Le.refl s,?_⟩
 .simp [execOp,Instr.sliceAt,e1,run_underlying ht.und,Instr.sureAddr,Instr.sliceBounds,he.run_size,Addr.add_lit]
 .refine ⟨some ⟨g, p, none⟩, ds.length, by rw [List.length_map], by rw [List.length_map]; exact Nat.le_refl _, by omega, λ_=>⟨g, p, rfl, λk hk=>?_⟩⟩
  rw [List.length_map] at hk
  have e2:(ds.map λy=>[y]).getD k []=[BG ds k]:=by simp [BG,hk]
  rw [e2]
  refine ⟨rfl,cs,fz,h2,λj hj=>?_⟩
  have hj:j<1:=hj
  obtain rfl:j=0:=by omega
  have:=h3 k hk
  rw [Nat.mul_one,Nat.add_zero]
  exact this
def nT(T n:Nat)(f:Nat->Int):D:=slD T 1 ((List.range n).map λi=>[ex (.int .i64 (f i))])
theorem PD{x:Operand}{t T:TypeId}{e m b n:Nat}{z:Value}{f:Nat->Int}(hx:Ed hp (arg x)=some (nT T n f))(ht:Tab P t (.slice e) m b z):Quiet P hp ⟨dd,.call { callee:=.builtin .len,args:=#[x],argTypes:=#[t] },ty,ps,af,gd⟩ arg (.d (ex (.int .i64 (n:Nat)))):=by
 have:=JB (dd:=dd) (ty:=ty) (ps:=ps) (af:=af) (gd:=gd) (f:=λi=>[ex (.int .i64 (f i))]) (l:=List.range n) hx ht
 rwa [List.length_range] at this
theorem A0A{x y:Operand}{t T:TypeId}{e n b n' b' k m:Nat}{d:TypeDesc}{z z':Value}{f:Nat->Int}{κ:IntKind}(hx:Ed hp (arg x)=some (nT T m f))(hy:arg y = .d (ex (.int κ (k:Nat))))(ht:Tab P t (.slice e) n b z)(he:Tab P e d n' b' z')(hsz:n'=1)(hk:k<m):Quiet P hp ⟨dd,.indexAddr t x y,ty,ps,af,gd⟩ arg (.d (Iw T [ex (.int .i64 (f k))])):=by
 have:=HO (dd:=dd) (ty:=ty) (ps:=ps) (af:=af) (gd:=gd) (k:=k) (f:=λi=>[ex (.int .i64 (f i))]) (l:=List.range m) hx hy ht he hsz (by rw [List.length_range];exact hk)
 have e:(List.range m).getD k default=k:=by simp [List.getD_eq_getElem?_getD,hk]
 rwa [e] at this
end
def mxT(a:Nat->Int):Nat->Int
 | 0=>a 0
 | k+1=>max (mxT a k) (a (k+1))
theorem Zm(a:Nat->Int):∀k,∃i,i<=k/\mxT a k=a i/\∀j,j<=k->a j<=a i
  | 0 => ⟨0, by omega, rfl, fun j hj => by obtain rfl : j = 0 := by omega
                                           omega⟩
  | k+1=>by
    obtain ⟨i,h1,h2,h3⟩:=Zm a k
    rcases Int.le_total (mxT a k) (a (k+1)) with h | h
    . refine ⟨k+1, by omega, by rw [mxT]; omega, λj hj=>?_⟩
      rcases Nat.lt_or_ge j (k+1) with h4 | h4
      . have:=h3 j (by omega)
        omega
      . obtain rfl:j=k+1:=by omega
        omega
    . refine ⟨i, by omega, by rw [mxT, <-h2]; omega, λj hj=>?_⟩
      rcases Nat.lt_or_ge j (k+1) with h4 | h4
      . exact h3 j (by omega)
      . obtain rfl:j=k+1:=by omega
        omega
theorem VQ(T:Nat)(a:Nat->Int):Abs Tryz.prog 89 [nT T 8 a] (ex (.int .i64 (mxT a 7))):=by
 refine Ab Tryz.func89 λs0=>?_
 rw [Tryz.ntmps89]
 refine Y1<|Wa<|Y0<|Aa<|Y1<|Wm ?_;refine Wq (PD rfl (Ac rfl)) ?_;refine Wq Aj ?_;refine Y0<|Cf<|Ys<|Y1<|Wm ?_;refine Wq (A0A (k:=0) rfl (ao rfl) (Ac rfl) (Ac rfl) rfl (by omega)) ?_;refine Wq CA ?_;refine Wa<|Y0<|Aa<|Y1<|Wa<|Y0<|AWp.block ?_
 refine AC (λmz σ=>∃k,k<=7/\mz=7-k/\σ=⟨[(0,.d (nT T 8 a)),(3,.d (ex (.int .i64 (mxT a k)))),(4,.d (ex (.int .i64 ((k+1:Nat):Int))))],[]⟩) ?le ⟨0,by omega,rfl,rfl⟩ ?round
 case le=>exact Ah (by exact Yd<|Yd<|Yd<|FrLe.nil) (by exact HpLe.nil)
 case round=>
  rintro mz _ ⟨k,hk,rfl,rfl⟩
  by_cases hlt:k<7
  .refine Aa<|Aa<|AWp.region<|Wm<|Wm ?_; refine Wq (PD rfl (Ac rfl)) ?_; refine Wq Ak ?_; refine AWl.nil<|Yn<|Ct<|AWp.skip<|Yn<|Aa<|AWp.block<|AWp.region<|Wm<|Wm<|Wm ?_; refine Wq (A0A (k:=k+1) rfl (ao rfl) (Ac rfl) (Ac rfl) rfl (by omega)) ?_; refine Wq CA ?_; refine Wq IA ?_; refine Wa<|AWl.nil<|Ag<|Yn<|AWp.region<|Wm ?_; refine Wq AD ?_; refine Wa<|AWl.nil ?_
   refine ALoop.next (7-(k+1)) (by omega) ⟨k+1,by omega,rfl,rfl⟩ ?_
   exact Ah (by exact Yd<|Yd<|Yd<|FrLe.nil) (by exact HpLe.nil)
  .obtain rfl:k=7:=by omega
   refine Aa<|Y1<|Wm<|Wm ?_;refine Wq (PD rfl (Ac rfl)) ?_;refine Wq Aj ?_;refine Y0<|Cf<|AA<|Aq<|Ar<|ABlock.hit<|Yn<|Y1<|Wm<|Wa<|Y0<|Am ?_
   exact Yf
section
variable {P:Program} {hp:List Ow} {arg:Operand->AV} {dd:Option Tmp} {ty:TypeId} {ps:String} {af:Array Edge} {gd:Option (Nat×Bool)}
theorem Mw{T U:TypeId}{x y:Operand}{a n:Nat}(hx:arg x = .d (ex (.int .i64 (a:Nat))))(hy:arg y = .d (ex (.int .i64 (n:Nat))))(hn:n<=63):Quiet P hp ⟨dd,.binOp .shr T x y U,ty,ps,af,gd⟩ arg (.d (ex (.int .i64 ((a/2^n:Nat):Int)))):=by
 refine ⟨λbase s ρ ev hok hbs hhp h=>?_⟩
 have h1:=h x (by simp [Op.operands])
 have h2:=h y (by simp [Op.operands])
 rw [hx] at h1;rw [hy] at h2
 have e1:ev x = .int .i64 (a:Nat):=h1
 have e2:ev y = .int .i64 (n:Nat):=h2
 have hm:Min.min n IntKind.i64.bits=n:=Nat.min_eq_left (by show n<=64;omega)
 have hd:Int.fdiv (a:Int) (2^n)=((a/2^n:Nat):Int):=by
  rw [Int.fdiv_eq_ediv_of_nonneg _ (Int.le_of_lt (Int.pow_pos (by decide)))]
  norm_cast
 refine Bk (v:=.int .i64 ((a/2^n:Nat):Int)) ?_ ⟨GS.Le.refl s,rfl⟩
 have hneg:¬((n:Int)<0):=by omega
 simp [execOp,e1,e2,eqGuard,binOp,Op.shift,hneg,hm,hd]
end
def okM(n:Nat)(a:Nat->Int):Prop:=In8 a 0 65535/\Bn a 8/2^n=0
theorem Xe(l:Ai)(n z y:Nat)(r:Int)(hn:n<=8)(hl:l.length<=100000)(hz:z<=l.length)(hok:∀k,k<z->okM n (AH l k))(hy:y<=l.length)(hend:(z<l.length/\¬okM n (AH l z)/\r=1)\/(z=l.length/\((12<l.length/\r=2)\/(l.length<=12/\(∀k,k<y->mxT (AH l k) 7<=64)/\((y<l.length/\64<mxT (AH l y) 7/\r=2)\/(y=l.length/\r=0)))))):Abs Tryz.prog 46 [AZ l,ex (.int .i64 (n:Nat))] (ex (.int .i64 r)):=by
 refine Ab Tryz.func46 λs0=>?_
 rw [Tryz.ntmps46]
 refine Y1<|Wa<|Y0<|Aa<|Y1<|Wm ?_;refine Wq Aj ?_;refine Wm ?_;refine Wg Af ?_;refine Wg Aj ?_;refine Wq Bc ?_;refine Y0<|Cf<|Ys<|Aa<|Y1<|Wm ?_;refine Wq (Dh rfl rfl (Ac rfl)) ?_;refine Wm<|Y0<|AWp.block ?_
 refine AC (λmz σ=>∃k,k<=z/\mz=z-k/\σ=⟨[(0,.d (AZ l)),(1,.d (ex (.int .i64 (n:Nat)))),(15,.d (AZ l)),(16,.d (ex (.int .i64 (l.length:Nat)))),(17,.d (ex (.int .i64 (k:Nat))))],[]⟩) ?le ⟨0,by omega,rfl,rfl⟩ ?round
 case le=>exact Ah (by exact Yd<|Yd<|Yd<|Yd<|Yd<|FrLe.nil) (by exact HpLe.nil)
 case round=>
  rintro mz _ ⟨k,hk,rfl,rfl⟩
  by_cases hlt:k<z
  .have hlt':k<l.length:=by omega
   obtain ⟨ho1,ho2⟩:=hok k hlt
   have ho2':Bn (AH l k) 8/2^n=0:=ho2
   have hsl:Bn (AH l k) 8<256:=CX (AH l k) 8
   apply Y1;refine Wq Ak ?_;refine Y0<|Aa<|Ct<|Ys<|Aa<|AWp.block<|Y1 ?_;refine Wq AE ?_;refine Wq AB ?_;refine Al ?_;refine Sf ?_;refine Y0<|Y1 ?_;refine Wq At ?_;refine Wq (Ad (Kj (AH l k) ho1)) ?_;refine Wq BH ?_;refine Wm ?_;refine Wg At ?_;refine Wg (Ad (Gv (AH l k))) ?_;refine Wg NU ?_;refine Wg Af ?_;refine Wg (Mw (a:=Bn (AH l k) 8) (n:=n) (ao rfl) (ao rfl) (by omega)) ?_;refine Wg Aj ?_;refine Wq Bc ?_;refine Y0<|Cf<|AWp.skip<|Ag<|Yn<|AWp.region ?_;refine Wq AD ?_;refine Wm<|AWl.nil ?_
   refine ALoop.next (z-(k+1)) (by omega) ⟨k+1,by omega,rfl,rfl⟩ ?_
   exact Ah (by exact Yd<|Yd<|Yd<|Yd<|Yd<|FrLe.nil) (by exact HpLe.nil)
  .obtain rfl:k=z:=by omega
   rcases hend with ⟨hlt,hbad,rfl⟩ | ⟨rfl,hend⟩
   .by_cases hv:In8 (AH l k) 0 65535
    .have hs:Bn (AH l k) 8/2^n≠0:=λh=>hbad ⟨hv,h⟩
     have hs':((Bn (AH l k) 8/2^n:Nat):Int)≠0:=by omega
     have hsl:Bn (AH l k) 8<256:=CX (AH l k) 8
     apply Y1;refine Wq Ak ?_;refine Y0<|Aa<|Ct<|Ys<|Aa<|AWp.block<|Y1 ?_;refine Wq AE ?_;refine Wq AB ?_;refine Al ?_;refine Sf ?_;refine Y0<|Y1 ?_;refine Wq At ?_;refine Wq (Ad (Kj (AH l k) hv)) ?_;refine Wq BH ?_;refine Wm ?_;refine Wg At ?_;refine Wg (Ad (Gv (AH l k))) ?_;refine Wg NU ?_;refine Wg Af ?_;refine Wg (Mw (a:=Bn (AH l k) 8) (n:=n) (ao rfl) (ao rfl) (by omega)) ?_;refine Wg Ak ?_;refine Wq Bc ?_;refine Y0<|Ct<|Y1<|Wa<|Y0<|Am<|Bw<|AP<|Di<|Bw<|AP ?_
     exact Yf
    .apply Y1;refine Wq Ak ?_;refine Y0<|Aa<|Ct<|Ys<|Aa<|AWp.block<|Y1 ?_;refine Wq AE ?_;refine Wq AB ?_;refine Al ?_;refine Sf ?_;refine Y0<|Y1 ?_;refine Wq At ?_;refine Wq (Ad (Qw (AH l k) hv)) ?_;refine Wq BH ?_;refine Wm ?_;refine Ws ?_;refine Ws ?_;refine Ws ?_;refine Ws ?_;refine Ws ?_;refine Ws ?_;refine Wq AM ?_;refine Y0<|Ct<|Y1<|Wa<|Y0<|Am<|Bw<|AP<|Di<|Bw<|AP ?_
     exact Yf
   .rcases hend with ⟨h12,rfl⟩ | ⟨h12,hy2,hend⟩
    .apply Y1;refine Wq Aj ?_;refine Y0<|Aa<|Cf<|AA<|Aq<|Ar<|ABlock.hit<|Yn<|Aa<|Y1<|Wm ?_;refine Wq (Dh rfl rfl (Ac rfl)) ?_;refine Wq Ak ?_;refine Y0<|Ct<|Y1<|Wa<|Y0<|Am<|AP ?_
     exact Yf
    .apply Y1;refine Wq Aj ?_;refine Y0<|Aa<|Cf<|AA<|Aq<|Ar<|ABlock.hit<|Yn<|Aa<|Y1<|Wm ?_;refine Wq (Dh rfl rfl (Ac rfl)) ?_;refine Wq Aj ?_;refine Y0<|Cf<|Ys<|Aa<|Y1<|Wm ?_;refine Wq (Dh rfl rfl (Ac rfl)) ?_;refine Wm<|Y0<|AWp.block ?_
     refine AC (λmz σ=>∃j,j<=y/\mz=y-j/\σ=⟨[(36,.d (AZ l)),(37,.d (ex (.int .i64 (l.length:Nat)))),(38,.d (ex (.int .i64 (j:Nat))))],[]⟩) ?lej ⟨0,by omega,rfl,rfl⟩ ?roundj
     case lej=>exact Ah (by exact Yd<|Yd<|Yd<|FrLe.nil) (by exact HpLe.nil)
     case roundj=>
      rintro mz _ ⟨j,hj,rfl,rfl⟩
      by_cases hltj:j<y
      .have hlt2:j<l.length:=by omega
       have hm:=hy2 j hltj
       apply Y1;refine Wq Ak ?_;refine Y0<|Aa<|Ct<|Ys<|Aa<|AWp.block<|Y1 ?_;refine Wq AE ?_;refine Wq AB ?_;refine Al ?_;refine Sf ?_;refine Y0<|Y1 ?_
       refine Dc (MF 0 8 rfl rfl rfl) ?_
       refine Wq (A0u (ao rfl) (Ac rfl) (Ac rfl) rfl (by decide)) ?_;refine Wq (Ad (VQ 55 (AH l j))) ?_;refine Wq Aj ?_;refine Y0<|Cf<|AWp.skip<|Ag<|Yn<|AWp.region ?_;refine Wq AD ?_;refine Wm<|AWl.nil ?_
       refine ALoop.next (y-(j+1)) (by omega) ⟨j+1,by omega,rfl,rfl⟩ ?_
       exact Ah (by exact Yd<|Yd<|Yd<|FrLe.nil) (by exact HpLe.nil)
      .obtain rfl:y=j:=by omega
       rcases hend with ⟨hlt,hbig,rfl⟩ | ⟨rfl,rfl⟩
       .apply Y1;refine Wq Ak ?_;refine Y0<|Aa<|Ct<|Ys<|Aa<|AWp.block<|Y1 ?_;refine Wq AE ?_;refine Wq AB ?_;refine Al ?_;refine Sf ?_;refine Y0<|Y1 ?_
        refine Dc (MF 0 8 rfl rfl rfl) ?_
        refine Wq (A0u (ao rfl) (Ac rfl) (Ac rfl) rfl (by decide)) ?_;refine Wq (Ad (VQ 55 (AH l y))) ?_;refine Wq Ak ?_;refine Y0<|Ct<|Y1<|Wa<|Y0<|Am<|Bw<|AP<|Di<|Bw<|AP ?_
        exact Yf
       .apply Y1;refine Wq Aj ?_;refine Y0<|Aa<|Cf<|AA<|Aq<|Ar<|ABlock.hit<|Yn<|Y1<|Wa<|Y0<|Am ?_
        exact Yf
end Go.Proofs.YtialdhnijjnpaaaGreat
