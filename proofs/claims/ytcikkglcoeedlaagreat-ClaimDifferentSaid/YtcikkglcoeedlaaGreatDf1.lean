/- Part 1. No condition. -/
import Derived.BigQuiet
import Derived.Deep.QuietTactic
import Derived.Deep.RegionHeld3
import Derived.Laws.AppendOwnNone
import Derived.Test.YtcikkglcoeedlaaGreatRows
import Derived.WalkKit
import Derived.WalkLawsBesides
import Derived.WalkSpells
set_option linter.unusedSimpArgs false
set_option linter.unusedVariables false
set_option linter.defProp false
set_option maxRecDepth 100000
set_option maxHeartbeats 800000
namespace Go.Proofs
abbrev Yaa:=@List.length_append
abbrev Yab:=@List.getD_eq_getElem?_getD
abbrev Yac:=@List.getElem?_eq_getElem
abbrev Yad:=@decide_eq_false
abbrev Yae:=@List.getElem?_eq_some_iff
abbrev Yaf:=@List.append_assoc
abbrev Yag:=@Option.some.inj
abbrev Yah:=@Nat.le_refl
abbrev Yai:=@if_neg
abbrev Yaj:=@List.all_eq_true
abbrev Yak:=@decide_eq_true
abbrev Yal:=@List.getElem?_append_right
abbrev Yam:=@Bool.and_eq_true
abbrev Yan:=@if_pos
abbrev Yao:=@Nat.eq_of_beq_eq_true
abbrev Yap:=@List.length_map
abbrev Yaq:=@Nat.lt_of_lt_of_le
abbrev Yar:=@List.take_of_length_le
abbrev Yas:=@Nat.mul_le_mul_left
abbrev Yat:=@Nat.le_trans
abbrev Yau:=@List.getElem?_map
abbrev Yav:=@List.getElem?_append_left
abbrev Yaw:=@Nat.zero_le
abbrev Yax:=@Nat.eq_zero_or_pos
abbrev Yay:=@List.length_cons
abbrev Yaz:=@List.mem_singleton
abbrev YaA:=@List.mem_map
abbrev YaB:=@List.mem_of_getElem?
abbrev YaC:=@Nat.mul_le_mul_right
abbrev YaD:=@Nat.lt_or_ge
abbrev YaE:=@Nat.mul_add
abbrev YaF:=@List.eq_nil_of_length_eq_zero
abbrev YaG:=@Nat.zero_add
abbrev YaH:=@Array.getD_eq_getD_getElem?
abbrev YaI:=@Nat.ne_of_beq_eq_false
abbrev YaJ:=@Array.getElem?_eq_getElem
abbrev YaK:=@List.getElem?_take
abbrev YaL:=@List.drop_eq_nil_of_le
abbrev YaM:=@List.mem_cons
abbrev YaN:=@Nat.mul_comm
abbrev YaO:=@List.length_take
abbrev YaP:=@List.drop_zero
abbrev YaQ:=@List.getElem?_append
abbrev YaR:=@Int.natAbs_natCast
abbrev YaS:=@Nat.mod_eq_of_lt
abbrev YaT:=@List.take_length
abbrev YaU:=@Array.getElem?_setIfInBounds_ne
abbrev YaV:=@Nat.mod_lt
abbrev YaW:=@List.setIfInBounds_toArray
abbrev YaX:=@Nat.mul_le_mul
abbrev YaY:=@List.map_congr_left
abbrev YaZ:=@Bool.or_eq_true
abbrev Yba:=@decide_eq_true_eq
abbrev Ybb:=@Nat.mul_assoc
abbrev Ybc:=@List.map_cons
abbrev Ybd:=@List.mem_range
abbrev Ybe:=@List.take_succ_cons
abbrev Ybf:=@List.drop_succ_cons
abbrev Ybg:=@Nat.not_lt_zero
abbrev Ybh:=@Nat.blt_eq
abbrev Ybi:=@Nat.add_zero
abbrev Ybj:=@Int.sign_eq_neg_one_of_neg
abbrev Ybk:=@List.length_nil
abbrev Ybl:=@Nat.mul_left_comm
abbrev Ybm:=@List.getElem_mem
abbrev Ybn:=@Nat.pow_le_pow_right
abbrev Ybo:=@List.mem_cons_of_mem
abbrev Ybp:=@List.mem_cons_self
abbrev Ybq:=@Int.sign_eq_one_of_pos
abbrev Ybr:=@Nat.pow_succ
abbrev Ybs:=@List.mem_of_mem_take
abbrev Ybt:=@List.mem_of_find?_eq_some
abbrev Ybu:=@List.contains_iff_mem
abbrev Ybv:=@Nat.lt_of_mul_lt_mul_left
abbrev Ybw:=@List.set_cons_succ
abbrev Ybx:=@Nat.min_eq_left
abbrev Yby:=@Nat.div_lt_of_lt_mul
abbrev Ybz:=@Array.getElem?_eq_some_iff
abbrev YbA:=@Nat.pos_of_ne_zero
abbrev YbB:=@Nat.le_of_ble_eq_true
abbrev YbC:=@List.append_nil
abbrev YbD:=@List.set_cons_zero
abbrev YbE:=@List.getElem?_eq_none
abbrev YbF:=@Nat.mul_one
abbrev YbG:=@Nat.add_mul
abbrev YbH:=@Int.eq_ofNat_of_zero_le
abbrev YbI:=@List.any_eq_true
abbrev YbJ:=@Nat.div_eq_of_lt
abbrev YbK:=@Nat.gcd_dvd_right
abbrev YbL:=@List.getElem?_of_mem
abbrev YbM:=@Int.le_refl
abbrev YbN:=@List.mem_zipIdx_iff_getElem?
abbrev YbO:=@List.getElem?_drop
abbrev YbP:=@List.getElem?_toArray
abbrev YbQ:=@List.mem_append
abbrev YbR:=@List.take_zero
abbrev YbS:=@List.length_drop
abbrev YbT:=@Nat.add_assoc
abbrev YbU:=@Int.tdiv_eq_ediv_of_nonneg
abbrev YbV:=@Nat.le_of_lt
abbrev YbW:=@Nat.lt_of_le_of_lt
abbrev YbX:=@Nat.add_sub_cancel
abbrev YbY:=@Nat.mod_eq_zero_of_dvd
abbrev YbZ:=@Nat.zero_lt_succ
abbrev Yca:=@List.mem_map_of_mem
abbrev Ycb:=@List.getElem?_set
abbrev Ycc:=@List.take_append_drop
abbrev Ycd:=@List.ext_getElem?
abbrev Yce:=@List.map_map
abbrev Ycf:=@Nat.lt_irrefl
abbrev Ycg:=@List.length_set
abbrev Ych:=@List.map_append
abbrev Yci:=@List.mem_of_mem_drop
abbrev Ycj:=@List.map_nil
abbrev Yck:=@List.take_succ_eq_append_getElem
abbrev Ycl:=@Int.tmod_eq_emod_of_nonneg
abbrev Ycm:=@Nat.lt_trichotomy
abbrev Ycn:=@List.drop_eq_getElem_cons
abbrev Yco:=@Int.mul_nonneg
abbrev Ycp:=@Int.natAbs_mul
abbrev Ycq:=@Int.natCast_add
abbrev Ycr:=@Array.getElem?_toList
abbrev Ycs:=@List.nil_append
abbrev Yct:=@Nat.mul_zero
abbrev Ycu:=@List.length_singleton
abbrev Ycv:=@List.range_succ
abbrev Ycw:=@beq_iff_eq
abbrev Ycx:=@List.find?_eq_none
abbrev Ycy:=@BitVec.toNat_ofNat
abbrev Ycz:=@List.cons_append
abbrev YcA:=@Nat.shiftLeft_add_eq_or_of_lt
abbrev YcB:=@Nat.one_mul
abbrev YcC:=@Nat.gcd_dvd_left
abbrev YcD:=@Nat.zero_mul
abbrev YcE:=@List.flatMap_cons
abbrev YcF:=@Nat.mod_add_div
abbrev YcG:=@Nat.pow_add
abbrev YcH:=@List.getElem_of_mem
abbrev YcI:=@Nat.zero_lt_one
abbrev YcJ:=@Bool.eq_iff_iff
abbrev YcK:=@List.map_toArray
abbrev YcL:=@decide_eq_decide
abbrev YcM:=@Nat.gcd_comm
abbrev YcN:=@List.getElem?_eq_none_iff
abbrev YcO:=@List.pairwise_iff_getElem
abbrev YcP:=@List.getElem?_set_ne
abbrev YcQ:=@List.find?_some
abbrev YcR:=@Nat.mul_add_div
abbrev YcS:=@Option.isSome_iff_exists
abbrev YcT:=@List.take_add_one
abbrev YcU:=@Nat.beq_refl
abbrev YcV:=@List.getElem?_cons_succ
abbrev YcW:=@Nat.mul_pos
abbrev YcX:=@Int.ofNat_dvd_left
abbrev YcY:=@Nat.div_add_mod
abbrev YcZ:=@Nat.succ_mul
abbrev Yda:=@Nat.add_comm
abbrev Ydb:=@Nat.two_pow_pos
abbrev Ydc:=@Nat.ble_eq_true_of_le
abbrev Ydd:=@List.size_toArray
abbrev Yde:=@Option.some.injEq
abbrev Ydf:=@Rat.divInt_eq_div
abbrev Ydg:=@Array.getElem?_append_left
abbrev Ydh:=@Nat.mul_lt_mul_of_pos_left
abbrev Ydi:=@Classical.byContradiction
abbrev Ydj:=@List.drop_drop
abbrev Ydk:=@Int.sign_eq_zero_iff_zero
abbrev Ydl:=@Int.natCast_ediv
abbrev Ydm:=@Int.natCast_emod
abbrev Ydn:=@Nat.succ_lt_succ
abbrev Ydo:=@List.getD_cons_succ
abbrev Ydp:=@List.getElem?_range
abbrev Ydq:=@Int.mul_nonpos_of_nonpos_of_nonneg
abbrev Ydr:=@Nat.div_lt_self
abbrev Yds:=@Int.natCast_mul
abbrev Ydt:=@Option.map_some
abbrev Ydu:=@Nat.mul_add_mod
abbrev Ydv:=@List.pairwise_cons
abbrev Ydw:=@List.foldl_cons
abbrev Ydx:=@Nat.mul_div_cancel_left
abbrev Ydy:=@decide_eq_false_iff_not
abbrev Ydz:=@Array.ext_getElem?
abbrev YdA:=@Nat.le_of_dvd
abbrev YdB:=@Array.count_toList
abbrev YdC:=@Nat.div_le_self
abbrev YdD:=@Array.getElem?_extract
abbrev YdE:=@Rat.normalize_eq_mkRat
abbrev YdF:=@Int.toNat_natCast
abbrev YdG:=@Iff.rfl
abbrev YdH:=@Bool.eq_false_iff
abbrev YdI:=@Int.lt_trichotomy
abbrev YdJ:=@Array.getElem?_modify
abbrev YdK:=@Nat.div_lt_iff_lt_mul
abbrev YdL:=@Nat.and_two_pow_sub_one_eq_mod
abbrev YdM:=@List.length_replicate
abbrev YdN:=@List.eq_nil_iff_forall_not_mem
abbrev YdO:=@Int.mul_le_mul_of_nonneg_right
abbrev YdP:=@Nat.shiftLeft_eq
abbrev YdQ:=@List.mem_toArray
abbrev YdR:=@Int.mul_le_mul_of_nonneg_left
abbrev YdS:=@BitVec.ofInt_natCast
abbrev YdT:=@Prod.mk.injEq
abbrev YdU:=@List.map_drop
abbrev YdV:=@List.map_take
abbrev YdW:=@Nat.dvd_trans
abbrev YdX:=@Nat.ble_eq
abbrev YdY:=@List.mem_filter
abbrev YdZ:=@List.replicate_succ
abbrev Yea:=@BitVec.toNat_or
abbrev Yeb:=@Int.natCast_one
abbrev Yec:=@Array.size_push
abbrev Yed:=@Nat.le_succ
abbrev Yee:=@Array.length_toList
abbrev Yef:=@Nat.lt_mul_div_succ
abbrev Yeg:=@Nat.pow_pos
abbrev Yeh:=@Nat.mul_lt_mul_of_pos_right
abbrev Yei:=@Int.one_mul
abbrev Yej:=@Nat.lt_of_mul_lt_mul_right
abbrev Yek:=@Nat.lt_trans
abbrev Yel:=@Int.le_trans
abbrev Yem:=@Int.emod_lt_of_pos
abbrev Yen:=@Array.all_eq_true'
abbrev Yeo:=@Nat.sub_self
abbrev Yep:=@List.take_left
abbrev Yeq:=@Nat.shiftRight_eq_div_pow
abbrev Yer:=@Int.natAbs_neg
abbrev Yes:=@Int.mul_neg_of_neg_of_pos
abbrev Yet:=@Nat.eq_of_mul_eq_mul_left
abbrev Yeu:=@Nat.or_lt_two_pow
abbrev Yev:=@List.foldl_append
abbrev Yew:=@List.length_range
abbrev Yex:=@of_decide_eq_true
abbrev Yey:=@List.map_id
abbrev Yez:=@List.mem_flatMap
abbrev YeA:=@Nat.lt_succ_self
abbrev YeB:=@List.not_mem_nil
abbrev YeC:=@Option.map_none
abbrev YeD:=@Rat.num_eq_zero
abbrev YeE:=@List.find?_cons
abbrev YeF:=@Int.mul_ne_zero
abbrev YeG:=@Int.emod_nonneg
abbrev YeH:=@Rat.num_intCast
abbrev YeI:=@Nat.testBit_or
abbrev YeJ:=@List.take_take
abbrev YeK:=@Int.mul_neg
abbrev YeL:=@Nat.gcd_rec
abbrev YeM:=@Nat.div_pos
abbrev YeN:=@Int.mul_pos
structure Zaa(q:Prop):Prop where
 a:q
section
variable{p q:Prop}
theorem Zbx(h:p:=by
 refine Fd 184 5 ZbL ZbL rfl ?_;refine AF (λA c=>∃k v,k<=g/\A=g-k/\c=⟨[(3,.ptr 0 0),(4,.ptr 1 0),(5,.ptr 2 0),(6,.ptr 3 0),(7,.d (Ba (AZ L))),(8,.d (ex (.int .i64 ((E.length:Nat):Int)))),(9,.ptr 4 0),(10,.d (ex (.int .i64 (g:Nat)))),(11,.d (ex (.int .i64 (k:Nat))))],[.var 58 ((Hh T o G L V).map .d),.var 26 (([ex (.int .i64 M),Ba E,F]:List D).map .d),.var 34 (([ex (.int .i64 z),K,ex (.int .i64 n),ex (.int .i64 d),ex (.int .i64 r),W,Ba p,S,R]:List D).map .d),.var 46 ((EI 0 Aq Aq Aq Aq Aq Aq Aq Aq Aq Aq).map .d),.var 46 ((EI 0 (Ba (pQ (AZ L) 1 E.length)) Aq Aq Aq Aq Aq Aq (ex v) Aq Aq).map .d),.obj (Mc v 184 5 (Vl (AZ L) V k))]⟩) ?le ⟨0,.slice none 0 0,by omega,rfl,rfl⟩ ?round
 case le=>exact Ac Zcy Zew
 case round=>
  rintro A _ ⟨k,v,B,rfl,rfl⟩;by_cases O:k<g
  .have N:=CH o V J k ZbG I
   have u:=Cj J k;have h:=Kh (AR V k) 5 ZbG ZbG ZbL ZbL;have j:Abs Tryz.prog 62 [Ba (AZ L),ex (.int .i64 (k:Nat)),ex (.int .i64 (1:Nat))] (Ba [pP (AZ L) k]):=Ev (AZ L) k 1 ZbG ZbL ZbG;refine Go ?_;refine FH 5 (.obj (Mc v 184 5 (Vl (AZ L) V k))) (.row 184 5 (Vl (AZ L) V k++[DB (Rat.divInt (AR V k) 5)++[BP (pP (AZ L) k)]])) 16 18 [17,16,15,14,13,12,11,10,9,8,7,6,5,4,3,2,1,0] [] [.ptr 4 25,.d (ex v),.ptr 0 2,.d (Ov o V),.d (ex (.int .i64 (k:Nat))),.d (ex (.int .i64 (AR V k))),.d (ex (.int .i8 (AR V k))),.d (AQ [ex (.int .i8 (AR V k)),ex (.int .i8 5),ex (.int .u8 0)]),.d (AQ (DB (Rat.divInt (AR V k) 5))),.d (Ba (AZ L)),.d (ex (.int .i64 (k:Nat))),.d (Ba [pP (AZ L) k]),.d (Fg 28 [BP (pP (AZ L) k)]),.d (BP (pP (AZ L) k)),.d (AQ (DB (Rat.divInt (AR V k) 5)++[BP (pP (AZ L) k)])),.d (slD 184 5 [DB (Rat.divInt (AR V k) 5)++[BP (pP (AZ L) k)]]),.own 5,.ptr 4 25] [[],[(59,0)],[],[(61,2)],[],[(62,3),(63,4)],[(64,5)],[(65,6)],[(66,7)],[],[],[(68,9),(69,10)],[(70,11)],[(71,12)],[(67,8),(72,13)],[(73,14)],[(60,1),(74,15)],[]] [(3,.ptr 0 0),(4,.ptr 1 0),(5,.ptr 2 0),(6,.ptr 3 0),(7,.d (Ba (AZ L))),(8,.d (ex (.int .i64 ((E.length:Nat):Int)))),(9,.ptr 4 0),(10,.d (ex (.int .i64 (g:Nat)))),(11,.d (ex (.int .i64 (k:Nat))))] [(75,.own 5),(76,.ptr 4 25),(3,.ptr 0 0),(4,.ptr 1 0),(5,.ptr 2 0),(6,.ptr 3 0),(7,.d (Ba (AZ L))),(8,.d (ex (.int .i64 ((E.length:Nat):Int)))),(9,.ptr 4 0),(10,.d (ex (.int .i64 (g:Nat)))),(11,.d (ex (.int .i64 (k:Nat))))] ZbK rfl ⟨rfl,rfl,rfl,rfl,rfl,rfl,rfl,rfl,rfl,trivial⟩ rfl rfl ZbK ZbK ZbK (by refine DSteps.q rfl ZbE ?_;refine DSteps.q rfl ZbE ?_;refine DSteps.q rfl ZbE ?_;refine DSteps.q rfl ZbE ?_;refine DSteps.q rfl ZbE ?_;refine DSteps.q rfl (λ_=>BQ (ah rfl) N (ArgsLe.cons rfl (D.le.refl _) (ArgsLe.cons rfl (D.le.refl _) ArgsLe.nil))) ?_;refine DSteps.q rfl (λ_=>AP (r:=AR V k) (ah rfl) (Aa rfl) (Aa rfl) (Wk ZbG ZbG)) ?_;refine DSteps.q rfl ZbE ?_;refine DSteps.q rfl (λ_=>BQ (ah rfl) h (ArgsLe.cons rfl (D.le.refl _) ArgsLe.nil)) ?_;refine DSteps.q rfl ZbE ?_;refine DSteps.q rfl ZbE ?_;refine DSteps.q rfl (λ_=>BQ (ah rfl) j (ArgsLe.cons rfl (D.le.refl _) (ArgsLe.cons rfl (D.le.refl _) (ArgsLe.cons rfl (D.le.refl _) ArgsLe.nil)))) ?_;refine DSteps.q rfl (λ_=>Ir (f:=λP=>[BP P]) (a:=pP (AZ L) k) (l:=[]) rfl (ah rfl) (Aa rfl) (Aa rfl) rfl) ?_;refine DSteps.q rfl (λ_=>Gi (ah rfl) (Aa rfl) rfl rfl) ?_;refine DSteps.q rfl ZbE ?_;refine DSteps.q rfl (λ_=>Cc (ah rfl) (Aa rfl) (Aa rfl) rfl rfl rfl rfl rfl) ?_;refine DSteps.k rfl (DTurn.rows rfl rfl rfl (Aa rfl) (Aa rfl) rfl rfl rfl rfl ZiB ZiB) ?_;refine DSteps.q rfl ZbE ?_;exact DSteps.nil) ZbK ZbK ⟨rfl,rfl,rfl,rfl,rfl,rfl,rfl,rfl,rfl,rfl,rfl,trivial⟩ [.var 58 ((Hh T o G L V).map .d),.var 26 (([ex (.int .i64 M),Ba E,F]:List D).map .d),.var 34 (([ex (.int .i64 z),K,ex (.int .i64 n),ex (.int .i64 d),ex (.int .i64 r),W,Ba p,S,R]:List D).map .d),.var 46 ((EI 0 Aq Aq Aq Aq Aq Aq Aq Aq Aq Aq).map .d),.var 46 ((EI 0 (Ba (pQ (AZ L) 1 E.length)) Aq Aq Aq Aq Aq Aq (ex v) Aq Aq).map .d),.row 184 5 (Vl (AZ L) V k++[DB (Rat.divInt (AR V k) 5)++[BP (pP (AZ L) k)]])] rfl ?_;refine Ep (ao rfl) (ao rfl) rfl (Aa rfl) (One.own rfl) rfl rfl ?_;refine AWl.nil<|Bi<|Yn ?_;(refine FR 5 184 5 (Vl (AZ L) V (k+1)) (by rw[Xu];rfl) λb=>?_);refine AWp.region<|Wm ?_;refine Wq CJ ?_;refine Wa<|AWl.nil ?_
   skip
   refine Ai (g-(k+1)) ZbG ⟨k+1,b,by omega,rfl,rfl⟩ ?_;exact Ac Zcy Zdr
  .obtain rfl:k=g:=by omega
   refine DV (σ':=⟨[(3,.ptr 0 0),(4,.ptr 1 0),(5,.ptr 2 0),(6,.ptr 3 0),(7,.d (Ba (AZ L))),(8,.d (ex (.int .i64 ((E.length:Nat):Int)))),(9,.ptr 4 0),(10,.d (ex (.int .i64 (k:Nat)))),(11,.d (ex (.int .i64 (k:Nat))))],[.var 58 ((Hh T o G L V).map .d),.var 26 (([ex (.int .i64 M),Ba E,F]:List D).map .d),.var 34 (([ex (.int .i64 z),K,ex (.int .i64 n),ex (.int .i64 d),ex (.int .i64 r),W,Ba p,S,R]:List D).map .d),.var 46 ((EI 0 Aq Aq Aq Aq Aq Aq Aq Aq Aq Aq).map .d),.var 46 ((EI 0 (Ba (pQ (AZ L) 1 E.length)) Aq Aq Aq Aq Aq Aq (slD 184 5 (Vl (AZ L) V k)) Aq Aq).map .d),.dead]⟩) ?wk ?_
   case wk=>exact Ac ZcC (HpLe.cons (OwLe.varD rfl) (HpLe.cons (OwLe.varD rfl) (HpLe.cons (OwLe.varD rfl) (HpLe.cons (OwLe.varD rfl) (HpLe.cons (OwLe.cells Zds) (HpLe.cons OwLe.dead HpLe.nil))))))
   refine Go ?_;exact AA (Am (ResV.cell rfl rfl (Aa rfl) rfl rfl rfl) (D.le.refl _))):p:=h
theorem Zbn(h:p:=by
 rintro v _ ⟨k,B,rfl,E,rfl⟩;by_cases O:k<L.length
 .have q:=hF _ (BF (l:=L) O)
  by_cases G:P (L.getD k default)
  .rw [Yak G]at q
   have I:∀j,j<k+1->P (L.getD j default):=λj W=>by
    rcases YaD j k with h | h
    .exact E j h
    .obtain rfl:j=k:=by omega
     exact G
   refine Go ?_;refine Wq (Dl (ao rfl) q Zcv) ?_;refine Go ?_;refine Ai (L.length-(k+1)) ZbG ⟨k+1,by omega,rfl,I,rfl⟩ ?_;exact Ac Zcn Zcf
  .rw [Yad G]at q
   rw[Yad λh:(∀x∈L,P x)=>G (h _ (BF O))];refine Go ?_;refine Wq (Dl (ao rfl) q Zcv) ?_;refine Go ?_;exact Yf
 .obtain rfl:k=L.length:=by omega
  rw[Yak (show∀x∈L,P x from λx C=>by
   obtain⟨j,W,e⟩:=YcH C;have:=E j W;rw[Yab,Yac W,e]at this;exact this)]
  refine Go ?_;exact Yf):p:=h
theorem Zby(h:p:=by
 refine Fd 129 8 ZbL ZbL rfl ?_;refine AF (λA c=>∃k v,k<=g/\A=g-k/\c=⟨[(3,.ptr 0 0),(4,.ptr 1 0),(5,.ptr 2 0),(6,.ptr 3 0),(7,.d (Ba (AZ L))),(8,.d (ex (.int .i64 ((E.length:Nat):Int)))),(9,.ptr 4 0),(10,.d (ex (.int .i64 (g:Nat)))),(15,.d (ex (.int .i64 (k:Nat))))],[.var 58 ((Hh T o G L V).map .d),.var 26 (([ex (.int .i64 M),Ba E,F]:List D).map .d),.var 34 (([ex (.int .i64 z),K,ex (.int .i64 n),ex (.int .i64 d),ex (.int .i64 r),W,Ba p,S,R]:List D).map .d),.var 46 ((EI 0 Aq Aq Aq Aq Aq Aq Aq Aq Aq Aq).map .d),.var 46 ((ctR (Ba (pQ (AZ L) 0 g)) (Du (CS g)) (Fv (Gw (AZ L) E.length g)) (Fv (Gw (AZ L) g E.length)) (Fv (Gw (AZ L) g (g*(g-1)/2))) (ex (.int .i64 (AR V 5))) (QH (KA V 3)) (QH (KA V 2)) (ex v)).map .d),.obj (Mc v 129 8 (Wu V k))]⟩) ?le ⟨0,.slice none 0 0,by omega,rfl,rfl⟩ ?round
 case le=>exact Ac Zcy Zew
 case round=>
  rintro A _ ⟨k,v,B,rfl,rfl⟩;by_cases O:k<g
  .have Z:=Lr o V J I k ZbG
   refine Go ?_;refine FH 5 (.obj (Mc v 129 8 (Wu V k))) (.row 129 8 (Wu V k++[Jk (Eh V k 0)])) 8 10 [9,8,7,6,5,4,3,2,1,0] [] [.ptr 4 24,.d (ex v),.ptr 0 2,.d (Ov o V),.d (ex (.int .i64 (k:Nat))),.d (AQ (Dv (Eh V k))),.d (AQ (Jk (Eh V k 0))),.d (slD 129 8 [Jk (Eh V k 0)]),.own 5,.ptr 4 24] [[],[(167,0)],[],[(169,2)],[],[(170,3),(171,4)],[(172,5)],[(173,6)],[(168,1),(174,7)],[]] [(3,.ptr 0 0),(4,.ptr 1 0),(5,.ptr 2 0),(6,.ptr 3 0),(7,.d (Ba (AZ L))),(8,.d (ex (.int .i64 ((E.length:Nat):Int)))),(9,.ptr 4 0),(10,.d (ex (.int .i64 (g:Nat)))),(15,.d (ex (.int .i64 (k:Nat))))] [(175,.own 5),(176,.ptr 4 24),(3,.ptr 0 0),(4,.ptr 1 0),(5,.ptr 2 0),(6,.ptr 3 0),(7,.d (Ba (AZ L))),(8,.d (ex (.int .i64 ((E.length:Nat):Int)))),(9,.ptr 4 0),(10,.d (ex (.int .i64 (g:Nat)))),(15,.d (ex (.int .i64 (k:Nat))))] ZbK rfl ⟨rfl,rfl,rfl,rfl,rfl,rfl,rfl,rfl,rfl,trivial⟩ rfl rfl ZbK ZbK ZbK (by refine DSteps.q rfl ZbE ?_;refine DSteps.q rfl ZbE ?_;refine DSteps.q rfl ZbE ?_;refine DSteps.q rfl ZbE ?_;refine DSteps.q rfl ZbE ?_;refine DSteps.q rfl (λ_=>BQ (ah rfl) Z (ArgsLe.cons rfl (D.le.refl _) (ArgsLe.cons rfl (D.le.refl _) ArgsLe.nil))) ?_;refine DSteps.q rfl (λ_=>Hu (k:=0) (ah rfl) (ah rfl) (Aa rfl) (Aa rfl) rfl ZbL ⟨YbB rfl,rfl⟩) ?_;refine DSteps.q rfl (λ_=>Cc (ah rfl) (Aa rfl) (Aa rfl) rfl rfl rfl rfl rfl) ?_;refine DSteps.k rfl (DTurn.rows rfl rfl rfl (Aa rfl) (Aa rfl) rfl rfl rfl rfl ZiB ZiB) ?_;refine DSteps.q rfl ZbE ?_;exact DSteps.nil) ZbK ZbK ⟨rfl,rfl,rfl,rfl,rfl,rfl,rfl,rfl,rfl,rfl,rfl,trivial⟩ [.var 58 ((Hh T o G L V).map .d),.var 26 (([ex (.int .i64 M),Ba E,F]:List D).map .d),.var 34 (([ex (.int .i64 z),K,ex (.int .i64 n),ex (.int .i64 d),ex (.int .i64 r),W,Ba p,S,R]:List D).map .d),.var 46 ((EI 0 Aq Aq Aq Aq Aq Aq Aq Aq Aq Aq).map .d),.var 46 ((ctR (Ba (pQ (AZ L) 0 g)) (Du (CS g)) (Fv (Gw (AZ L) E.length g)) (Fv (Gw (AZ L) g E.length)) (Fv (Gw (AZ L) g (g*(g-1)/2))) (ex (.int .i64 (AR V 5))) (QH (KA V 3)) (QH (KA V 2)) (ex v)).map .d),.row 129 8 (Wu V k++[Jk (Eh V k 0)])] rfl ?_;refine Ep (ao rfl) (ao rfl) rfl (Aa rfl) (One.own rfl) rfl rfl ?_;refine AWl.nil<|Bi<|Yn ?_;(refine FR 5 129 8 (Wu V (k+1)) (by rw[YT];rfl) λb=>?_);refine AWp.region<|Wm ?_;refine Wq CJ ?_;refine Wa<|AWl.nil ?_
   skip
   refine Ai (g-(k+1)) ZbG ⟨k+1,b,by omega,rfl,rfl⟩ ?_;exact Ac Zcy Zdr
  .obtain rfl:k=g:=by omega
   refine DV (σ':=⟨[(3,.ptr 0 0),(4,.ptr 1 0),(5,.ptr 2 0),(6,.ptr 3 0),(7,.d (Ba (AZ L))),(8,.d (ex (.int .i64 ((E.length:Nat):Int)))),(9,.ptr 4 0),(10,.d (ex (.int .i64 (k:Nat)))),(15,.d (ex (.int .i64 (k:Nat))))],[.var 58 ((Hh T o G L V).map .d),.var 26 (([ex (.int .i64 M),Ba E,F]:List D).map .d),.var 34 (([ex (.int .i64 z),K,ex (.int .i64 n),ex (.int .i64 d),ex (.int .i64 r),W,Ba p,S,R]:List D).map .d),.var 46 ((EI 0 Aq Aq Aq Aq Aq Aq Aq Aq Aq Aq).map .d),.var 46 ((ctR (Ba (pQ (AZ L) 0 k)) (Du (CS k)) (Fv (Gw (AZ L) E.length k)) (Fv (Gw (AZ L) k E.length)) (Fv (Gw (AZ L) k (k*(k-1)/2))) (ex (.int .i64 (AR V 5))) (QH (KA V 3)) (QH (KA V 2)) (slD 129 8 (Wu V k))).map .d),.dead]⟩) ?wk ?_
   case wk=>exact Ac ZcC (HpLe.cons (OwLe.varD rfl) (HpLe.cons (OwLe.varD rfl) (HpLe.cons (OwLe.varD rfl) (HpLe.cons (OwLe.varD rfl) (HpLe.cons (OwLe.cells Zds) (HpLe.cons OwLe.dead HpLe.nil))))))
   refine Go ?_;exact AA (Am (ResV.cell rfl rfl (Aa rfl) rfl rfl rfl) (D.le.refl _))):p:=h
theorem Zbg(h:p:=by
 rw [Yai E]at M
 refine Wa<|Y0<|Ah<|Y1<|Wm<|Wm ?_;refine Wq (Ca (ao rfl)) ?_;refine Wq AC ?_;refine Wq Cn ?_;refine Wq (DA (ao rfl) (Aa rfl)) ?_;refine Wq (AP (r:=((r.length:Nat):Int)) (ao rfl) (Aa rfl) (Aa rfl) (ES ZbG)) ?_;refine Wq Bc ?_;refine Y0<|Ct<|AWp.region ?_;refine Wq (EJ (ao rfl) (Aa rfl)) ?_
 refine Dq (ao rfl) ?_;exact(by repeat (first | exact AN (M) | apply AH | apply PanQ.block | apply PanQ.loop):PanQ _ _) _):p:=h
theorem Zal(h:p:=by
 obtain⟨q,A⟩:=h
 refine⟨?_,usteps_steps r xq (i:=i+1) (λk=>by
  have:=z (k+1);rw[show i+1+k=i+(k+1)by omega,<-this];rfl) (λk=>by
  have:=H (k+1);rw[show i+1+k=i+(k+1)by omega,<-this];rfl) (by simpa using K) A⟩
 intro g w S Q B xn xl I Z;have V:L0[i]? = some o:=by have:=z 0;simpa using this.symm
 have C:sh[i]? = some ⟨e,b,[i]⟩:=by have:=H 0;simpa[Ge]using this.symm
 have xm:∀j,j∈b->∀G,Fs[j]? = some G->G (g j) w:=λj W G hG=>by
  have xb:∃y,sh[j]? = some y:=by
   cases N:sh[j]? with
   |some y=>exact⟨y,rfl⟩
   |none=>
    exfalso;have E:=W;have R:=(CN r V).2.1 _ C;simp only[Fm,Yam]at R;have M:=Yaj.1 R.1.1.1.1.1 j E;obtain⟨e',xa,xc⟩:=YbI.1 M;have O:=(CN r V).1 e' xa;simp only[YaZ,Ycw]at xc;have xd:=EM C;rw[YcN]at N;rcases xc with rfl | xc
    .omega
    .
     have key:∀(n:Nat) (y:Shape) (oy:Oper),sh[n]? = some y->L0[n]? = some oy->∀m∈y.bef,m<n:=by
      intro n
      induction n using Nat.strongRecOn with
      |_ n U=>
       intro y oy N xp m d;have xo:=(CN r xp).2.1 y N;simp only[Fm,Yam]at xo;have Y:=Yaj.1 xo.1.1.1.1.1 m d;obtain⟨f,xc,xh⟩:=YbI.1 Y;have xf:=(CN r xp).1 f xc;simp only[YaZ,Ycw]at xh;rcases xh with rfl | xh
       .exact xf
       .cases xg:sh[f]? with
        |none=>simp[Dt,xg]at xh
        |some y2=>
         have xi:f<L0.length:=Yaq (EM xg) (DH r);have:=U f xf y2 _ xg (Yac xi) m (by simpa[Dt,xg]using xh);omega
     have:=key i _ o C V j W;omega
  obtain⟨y,N⟩:=xb;have:=B _ C j W y (unF G) N (by rw[Yau,hG];rfl);rw[xq j y N]at this;exact this
 have xt:OpsKnown Fs S w e:=by
  have xk:∀p∈e,p.2∈b:=λp J=>(HH r C V J).1;have xr:UY S g e:=xn;clear C xl q xn H K
  induction e with
  |nil=>trivial
  |cons p e U=>
   obtain⟨t,j⟩:=p;obtain⟨q1,q2⟩:=xr;exact⟨λG hG=>by rw[q1];exact xm j (xk (t,j) ZbV) G hG,U (λp J=>xk p (by simp[J])) q2⟩
 have:=q w S Q xt xl I Z;have xj:∀v,unF F ([i].map (upd g i v))=F v:=λv=>by funext w;simp[unF,upd]
 cases l:o.guard with
 |none=>
  rw[l]at this;refine⟨λ_=>?_,λs=>by simp[Fo,l]at s⟩;simp only[xj];exact this
 |some jb=>
  obtain⟨j,c⟩:=jb;rw[l]at this
  have xs:j∈b:=by
   have R:=(CN r V).2.1 _ C;simp only[Fm,Yam]at R;have M:=R.1.2;rw[l]at M;simp only[Yam]at M;simpa using M.1.1
  obtain⟨t1,t2⟩:=this (g j) (λG hG=>xm j xs G hG);refine⟨λs=>?_,λs=>?_⟩
  .simp only[xj]
   refine t1 ?_;simp only[Fo,l]at s;split at s
   .rename_i u xe;rw[xe];congr 1;simpa using s
   .cases s
  .simp only[xj]
   refine t2 λe'=>?_;simp[Fo,l,e']at s):p:=h
theorem Zba(h:p:=by
 rintro v _ ⟨k,B,rfl,rfl⟩;by_cases O:k<l.length
 .have B:=C k O
  have L:=Dg CA O;have M:=Dc (b++BA N++(l.take k).flatMap CA);rw[Yaa,Yaa]at M;have r:(CA (l.getD k 0)).length=4:=rfl;have G:(CR (CA (l.getD k 0))).length=4:=rfl;replace L:((l.take k).flatMap CA).length+(CA (l.getD k 0)).length<=(l.flatMap CA).length:=L;obtain⟨w,J⟩:∃w,w=l.getD k 0:=⟨_,rfl⟩;refine Go ?_;refine Wq (Ca (ao rfl)) ?_;refine Go ?_;refine Wq (Ey (n:=24) (r:=((l.getD k 0/16777216:Nat):Int)) (ao rfl) (ao rfl) ZbL (EX ZbL)) ?_;refine Wq (AP (r:=((l.getD k 0/16777216%256:Nat):Int)) (ao rfl) (Aa rfl) (Aa rfl) ZcH) ?_;refine Wm ?_;refine Wq (Ey (n:=16) (r:=((l.getD k 0/65536:Nat):Int)) (ao rfl) (ao rfl) ZbL (EX ZbL)) ?_;refine Wq (AP (r:=((l.getD k 0/65536%256:Nat):Int)) (ao rfl) (Aa rfl) (Aa rfl) ZcH) ?_;refine Wm ?_;refine Wq (Ey (n:=8) (r:=((l.getD k 0/256:Nat):Int)) (ao rfl) (ao rfl) ZbL (EX ZbL)) ?_;refine Wq (AP (r:=((l.getD k 0/256%256:Nat):Int)) (ao rfl) (Aa rfl) (Aa rfl) ZcH) ?_;refine Wm ?_;refine Wq (AP (r:=((l.getD k 0%256:Nat):Int)) (ao rfl) (Aa rfl) (Aa rfl) ZcH) ?_;(refine Df rfl rfl ?_;(refine DG (Aa rfl) (Aa rfl) rfl rfl rfl rfl rfl ?_;(repeat ((first | refine⟨_,Az (ao rfl),?_⟩ | refine⟨_,Po rfl,?_⟩);refine⟨_,rfl,?_⟩));refine⟨_,rfl,?_⟩));(refine Ot (r2:=CR (CA (l.getD k 0))) (ao rfl) rfl rfl (Aa rfl) (Aa rfl) rfl rfl (by rw[M,G];omega) (by rw[M,G];omega) rfl ZcD rfl ?_);refine Wq (Ca (ao rfl)) ?_;refine Wq AC ?_;refine Ep (ao rfl) (ao rfl) rfl (Aa rfl) ZdG rfl rfl ?_;refine Go ?_;refine Ai (l.length-(k+1)) ZbG ⟨k+1,by omega,rfl,rfl⟩ ?_;exact Ac Zdg (by refine HpLe.cons (Ad rfl) ?_;(refine HpLe.cons (OwLe.row (NJ Zfr)) ?_);exact HpLe.cons (Ak rfl)<|HpLe.nil)
 .obtain rfl:k=l.length:=by omega
  refine Go ?_
  first | refine Bs RetsA.none rfl ?_ rfl | refine AW RetsA.none rfl ?_ rfl
  exact⟨rfl,by rw[W,YaT,Yaf];rfl⟩):p:=h
theorem Zbk(h:p:=by
 rintro v _ ⟨k,B,rfl,rfl⟩;by_cases O:k<l.length
 .have B:=A k O
  have L:=Dg CA O;have M:=Dc (b++BA N++(l.take k).flatMap CA);rw[Yaa,Yaa]at M;have r:(CA (l.getD k 0)).length=4:=rfl;have h:(CR (CA (l.getD k 0))).length=4:=rfl;replace L:((l.take k).flatMap CA).length+(CA (l.getD k 0)).length<=(l.flatMap CA).length:=L;refine Go ?_;refine Wq (Ey (n:=24) (r:=((l.getD k 0/16777216:Nat):Int)) (ao rfl) (ao rfl) ZbL (EX ZbL)) ?_;refine Wq (AP (r:=((l.getD k 0/16777216%256:Nat):Int)) (ao rfl) (Aa rfl) (Aa rfl) ZcH) ?_;refine Wm ?_;refine Wq (Ey (n:=16) (r:=((l.getD k 0/65536:Nat):Int)) (ao rfl) (ao rfl) ZbL (EX ZbL)) ?_;refine Wq (AP (r:=((l.getD k 0/65536%256:Nat):Int)) (ao rfl) (Aa rfl) (Aa rfl) ZcH) ?_;refine Wm ?_;refine Wq (Ey (n:=8) (r:=((l.getD k 0/256:Nat):Int)) (ao rfl) (ao rfl) ZbL (EX ZbL)) ?_;refine Wq (AP (r:=((l.getD k 0/256%256:Nat):Int)) (ao rfl) (Aa rfl) (Aa rfl) ZcH) ?_;refine Wm ?_;refine Wq (AP (r:=((l.getD k 0%256:Nat):Int)) (ao rfl) (Aa rfl) (Aa rfl) ZcH) ?_;(refine Df rfl rfl ?_;(refine DG (Aa rfl) (Aa rfl) rfl rfl rfl rfl rfl ?_;(repeat ((first | refine⟨_,Az (ao rfl),?_⟩ | refine⟨_,Po rfl,?_⟩);refine⟨_,rfl,?_⟩));refine⟨_,rfl,?_⟩));(refine EB (r2:=CR (CA (l.getD k 0))) (ao rfl) rfl rfl (Aa rfl) (Aa rfl) rfl rfl (by rw[M,h];omega) (by rw[M,h];omega) rfl ZbM rfl ?_);refine Go ?_;refine Ai (l.length-(k+1)) ZbG ⟨k+1,by omega,rfl,rfl⟩ ?_;exact Ac Zce (by(refine HpLe.cons (OwLe.row (NJ Zfr)) ?_);exact HpLe.cons (Ak rfl)<|HpLe.cons (Ad rfl)<|HpLe.nil)
 .obtain rfl:k=l.length:=by omega
  refine Go ?_
  first | refine Bs (RetsA.one rfl) rfl ?_ rfl | refine AW (RetsA.one rfl) rfl ?_ rfl
  exact⟨rfl,by rw[W,YaT,Yaf];rfl⟩):p:=h
theorem Zbc(h:p:=by
 obtain rfl:k=L.length:=by omega
 refine Go ?_
 first | refine Bs RetsA.none rfl ?_ rfl | refine AW RetsA.none rfl ?_ rfl
 exact⟨rfl,by rw[YaT,Bt,<-Yaf];rfl⟩):p:=h
theorem Zbf(h:p:=by
 obtain rfl:k=n:=by omega
 rw[Yeo]at V;refine Go ?_;refine FinP.ret (RetsA.d (Am (ResV.tmp rfl rfl) (D.le.refl _))) rfl ?_ rfl;exact⟨A,j,by rw[M,V];simp[Cq,Cu],J,rfl,rfl⟩):p:=h
theorem Zac(h:p:=by
 intro y N
 cases y with
 |tmp t=>
  show vj.tmps.getD t undef=_
  cases l:us.env.find? (λp=>p.1==t)with
  |some p=>
   have G:p∈us.env:=Ybt l;have X:p.1=t:=by simpa using YcQ l
   obtain⟨q,A,B,F,J⟩:=HH E C m G;have I:=Eo E O.closed n us va C m Q p.2 q;have:=O.a1 p.2 B p.1 A F I J;simp only[Qu,l];rw[X]at this;simp[this]
  |none=>
   simp only[Qu,l];have q:=(CN E m).2.1 us C;simp only[Fm,Yam]at q;have A:=Yaj.1 q.1.1.2 (.tmp t) (by simpa using N);simp only[YaZ]at A;rcases A with A | A
   .exfalso
    have:t∈us.env.map (·.1):=by simpa using A
    obtain⟨p,G,X⟩:=YaA.1 this;have:=Ycx.1 l p G;simp[X]at this
   .have:vj.tmps[t]? = a.tmps[t]?:=by
     refine O.a2 t λj c W M I V=>?_;have K:=Yaj.1 A j (Ybd.2 W);rw[M]at K;simp[V]at K;rcases K with K | K
     .subst K;rw[S]at I;cases I
     .cases o:sh[j]? with
      |none=>rw[YcN]at o;omega
      |some d=>
       have:=Eo E O.closed j d c o M (O.closed j c M I) n (by simpa[Dt,o]using K);rw[S]at this;cases this
    rw[YaH,YaH,this]
 |const v=>rfl
 |global b=>rfl
 |func f=>rfl):p:=h
theorem Zbq(h:p:=by
 by_cases g:kind=6
 .subst g
  refine Go ?_;refine Dy 5 ?_;refine Dw ?_;refine Go ?_;exact AA (Rets.of2 (ResV.tmp rfl rfl) (ResV.tmp rfl rfl) (Co (Ae ZdA) (Ae ZdB)))
 by_cases v:kind=7
 .subst v
  refine Go ?_;refine Dy 7 ?_;refine Dw ?_;refine Go ?_;exact AA (Rets.of2 (ResV.tmp rfl rfl) (ResV.tmp rfl rfl) (Co (Ae ZdA) (Ae ZdB)))
 by_cases f:kind=8
 .subst f
  refine Go ?_;refine Dy 7 ?_;refine Dw ?_;refine Go ?_;exact AA (Rets.of2 (ResV.tmp rfl rfl) (ResV.tmp rfl rfl) (Co (Ae ZdA) (Ae ZdB)))
 by_cases F:kind=9
 .subst F
  refine Go ?_;exact AA (Rets.of2 (ResV.tmp rfl rfl) (ResV.tmp rfl rfl) (Co (Ae ZdA) (Ae ZdB)))
 by_cases G:kind=13
 .subst G
  refine Go ?_;exact AA (Rets.of2 (ResV.tmp rfl rfl) (ResV.tmp rfl rfl) (Co (Ae ZdA) (Ae ZdB)))
 by_cases e:kind=12
 .subst e
  refine Go ?_;refine Dy 3 ?_;refine Dw ?_;refine Go ?_;exact AA (Rets.of2 (ResV.tmp rfl rfl) (ResV.tmp rfl rfl) (Co (Ae ZdA) (Ae ZdB)))
 refine Go ?_;exact AA (Rets.of2 (ResV.tmp rfl rfl) (ResV.tmp rfl rfl) (Co (Ae ZdA) (Ae ZdB)))):p:=h
theorem Zaf(h:p:=by
 have xD:sh.length=L.length:=by
  have:=DH H;rcases YaD sh.length L.length with Q | hge
  .have A:=xe sh.length Q
   rw[xa.tail _ (Yah _)]at A;cases A
  .omega
 have:=xt g N xa.ext λj y F O hF=>xa.facts j y F O hF (xe j (by have:=EM O;omega));rw[xD]at this
 have xG:Fw g (L.take L.length) 0 a=a':=by
  obtain⟨p1,p2,p3,p4⟩:=Hn (g:=g) (L.take L.length) 0 a (λj k o u d W C V w=>by
   simp at W C;exact Gs H ZeT (by have:=(Yae.1 C).1;omega) W C V w) (λo r d xj=>by
   rw[<-xD]at r;have B:=Yaj.1 Z o r;simp only[xj,Yba]at B;exact B)
  refine NM (Ydz λt=>?_) (p2.trans xa.adef.symm);by_cases M:∃(j:Nat) (o:Oper),L[j]? = some o/\o.dst=some t
  .obtain ⟨j,o,W,xj⟩:=M
   rw[p3 j o t Zez xj,xa.a1 j o t ZeT W (xe j (Yae.1 W).1) xj];simp
  .rw [p4 t λj o W e=>M ⟨j,o,by simpa using W,e⟩,xa.a2 t λj o _ W _ e=>M ⟨j,o,W,e⟩]
 rw[xG]at this;exact this):p:=h
theorem Zan(h:p:=by
 obtain⟨k,B,rfl,J⟩:=hrel;by_cases S:k=0
 .subst S
  go_wp2;go_ret;refine⟨_,rfl,?_,Ext.refl _⟩;have q:=H.out.take (k:=0) (Yaw _);rw[J.out];exact q
 .have O:0<k:=by omega
  obtain⟨b,o,rfl,E,N⟩:=Q.out Zfm;have N:=N (k-1) Zfm;have W:((k:Int)-1).toNat=k-1:=by omega
  by_cases u:l.getD (k-1) 0=0
  .rw [u]at N
   have u:=Af u;go_wp2;go_round
   case rel => exact ⟨k - 1, by omega, by go_num, by
    have q:k-1<l.length:=by rw[<-m.out];omega
    have K:l[k-1]=0:=by have:=u.out;simpa[q]using this
    have Y:=Rj q K;rw[show k-1+1=k by omega]at Y;exact J.out.trans Y⟩
   case measure=>simp[intOf];omega
  .have X:((l.getD (k-1) 0:Nat):Int)≠0:=by omega
   generalize C:l.getD (k-1) 0=x at *;have C:=Af C;have d:((x:Int)==0)=false:=by simpa using u
   go_wp2;go_ret;refine⟨_,rfl,?_,Ext.refl _⟩;have q:=H.out.take (k:=k) Zfm;have V:k-1<l.length:=by rw[<-m.out];omega
   have K:l[k-1]≠0:=by have:=C.out;simp[V]at this;omega
   have Y:=Mv V K;rw[show k-1+1=k by omega]at Y;rw[J.out,Y];exact q):p:=h
theorem Zag(h:p:=by
 have key:∀(l:List Bool) (n:Nat),n<=l.length->(∀j,j<n->l[j]? = some true)->(∀j,n<=j->j<l.length->l[j]? = some false)->(l.filter (!·)).length+n=l.length:=by
  intro l
  induction l with
  |nil=>intro n c _ _;simp at c;simp[c]
  |cons b l xK=>
   intro n c A B
   cases n with
   |zero=>
    have I:=B 0 (Yah _) ZbV;simp at I;subst I;have:=xK 0 ZbG (λj W=>by omega) (λj _ W=>by simpa using B (j+1) ZbG Zez);simp at this ⊢;omega
   |succ n=>
    have I:=A 0 ZbG;simp at I;subst I;have:=xK n (by simpa using c) (λj W=>by simpa using A (j+1) ZbG) (λj xF xz=>by simpa using B (j+1) ZbG (by simpa using xz));simp;omega
 have := key U.toList sh.length (by simpa [xa.size] using DH H) (fun j W => by
   have A:=xk j W;have xl:j<U.size:=by rw[xa.size];have:=DH H;omega
   simp[xl]at A;simp[xl,A]) (λj xF xz=>by
   have A:=xa.tail j xF;have xl:j<U.size:=by simpa using xz
   simp[xl]at A;simp[xl,A])
 have V:(U.toList.filter (!·)).length=f+1:=s;rw[V]at this;simpa[xa.size]using this):p:=h
theorem Zbh(h:p:=by
 have F:=Q T j C
 refine Go ?_;refine Bd [0] [] [] (F) (BX rfl) (λN=>(by repeat (first | exact AN (Rd.none (DY O V N)) | apply AH | apply PanQ.block | apply PanQ.loop):PanQ _ _) _) rfl rfl ZbF ZbD ZbL ZbB ZbH trivial rfl ?_;rintro _ _ ⟨x,g,K,H,rfl,rfl⟩;refine Kr ?_;refine Wq SV ?_;refine Mm (ao rfl) (ao rfl) rfl (Aa rfl) rfl (Hr (λ_=>rfl) rfl O) rfl ?_;refine Go ?_;refine Ai (8-(k+1)) ZbG ⟨k+1,h++[x],g,by omega,rfl,by simp[Z],H,DX O V K,rfl⟩ ?_;exact Ac ZcY (by exact HpLe.cons (Ad rfl)<|HpLe.cons (Ak rfl)<|HpLe.cons (OwLe.varD (XP Z))<|HpLe.nil)):p:=h
theorem Zbm(h:p:=by
 refine Cy [0] (F) rfl ZbI rfl ZbF ZbD ZbL ZbB rfl ?_;rintro _ _ ⟨rfl,rfl⟩;refine Kr ?_;refine Wa<|AWl.nil<|Bi<|Yn<|AWp.region<|Wm ?_;refine Wq CJ ?_;refine Wa<|AWl.nil ?_
 refine Ai (8-(k+1)) ZbG ⟨k+1,by omega,rfl,rfl⟩ ?_;exact Ac Zce ZdU):p:=h
theorem ZaZ(h:p:=by
 refine AU [0,1] [] [] (F) ZbC rfl rfl ZbF ZbD ZbL ZbB ZbH trivial rfl ?_;rintro _ _ ⟨rfl,rfl⟩;refine Kr ?_;apply AWl.nil
 first | refine Bs RetsA.none rfl ?_ rfl | refine AW RetsA.none rfl ?_ rfl
 exact⟨rfl,rfl⟩):p:=h
theorem Zah(h:p:=by
 have xh:∀j o,(L.take sh.length)[j]? = some o->j<sh.length/\L[j]? = some o:=λj o h=>by
  rw[YaK]at h;split at h
  .exact ⟨by assumption,h⟩
  .cases h
 obtain⟨p1,p2,p3,p4⟩:=Hn (g:=g) (L.take sh.length) 0 a (λj k o u d W C V w=>by
  obtain⟨xF,xz⟩:=xh j o W;obtain⟨xC,xB⟩:=xh k u C;exact Gs H xF xC xz xB V w) (λo r d xj=>by
  have B:=Yaj.1 Z o r;simp only[xj,Yba]at B;exact B)
 refine NM (Ydz λt=>?_) (p2.trans xa.adef.symm);by_cases M:∃(j:Nat) (o:Oper),j<sh.length/\L[j]? = some o/\o.dst=some t
 .obtain ⟨j,o,xE,W,xj⟩:=M
  rw[p3 j o t (by rw[YaK,Yan xE];exact W) xj,xa.a1 j o t xE W (xk j xE) xj];simp
 .rw [p4 t λj o W e=>M ⟨j,o,(xh j o W).1,(xh j o W).2,e⟩,xa.a2 t λj o xE W _ e=>M ⟨j,o,xE,W,e⟩]):p:=h
theorem Zbe(h:p:=by
 refine Cy [0] (F) rfl ZbI rfl ZbF ZbD ZbL ZbB rfl ?_;rintro _ _ ⟨rfl,rfl⟩;refine Kr ?_;refine Go ?_
 first | refine Bs (RetsA.one rfl) rfl ?_ rfl | refine AW (RetsA.one rfl) rfl ?_ rfl
 exact⟨rfl,rfl⟩):p:=h
theorem Zbt(h:p:=by
 refine Go ?_
 refine CutS.normal () (by revert q;simp[Xs,eq3,A,B]) ?_;exact Ac ZcV Zda):p:=h
theorem Zav(h:p:=by
 have f:=Be H.out k;have t:=Be z.out k;have P:wr.cell? ⟨w.heap.size,k,none⟩=some (.int .u32 (r.getD k 0:Nat)):=by rw[J.out.2.2.1.cell,Ed Zfn]
 have o:=J.out.2.2.1.frozen k;generalize C:Z.getD k 0=x at *;generalize N:L.getD k 0=y at *;replace C:=Af C;replace N:=Af N;unfold BB at f t;go_wp2_with fail;refine(Ii _ Z k x _ (Ha.out.ext J.out.2.2.2.2) C.out).mono ?_;rintro e g ⟨rfl,rfl⟩;go_wp2_with fail;refine(Ii _ L k y _ (Hb.out.ext J.out.2.2.2.2) N.out).mono ?_;rintro e g ⟨rfl,rfl⟩;go_wp2;exact⟨J.out.step O C.out N.out f t u ZcZ ZcZ,by simp[intOf];omega⟩):p:=h
theorem Zbs(h:p:=by
 refine Go ?_
 refine CutS.ret ?_;exact AA (Am (ResV.tmp rfl rfl) (Ae (congrArg (λz=>ex (.bool z)) (by revert q;simp[Xs,eq3,A,B]<;>(intro q;exact .inl q)))))):p:=h
theorem ZaW(h:p:=by
 refine⟨V.le,V.ok,λi o J=>?_,λi j o O z J W b xd xh=>?_,λi o b J xd=>?_,λi J xi=>?_,?_⟩
 .rw [Ycg]
  rcases T i o J with rfl | K
  .trivial
  .exact V.hp i o K
 .rcases T i o J with rfl | K
  .exact xd.elim
  .rcases T j O W with rfl | Y
   .exact xh.elim
   .exact V.sep i j o O z K Y b xd xh
 .rcases T i o J with rfl | K
  .exact xd.elim
  .exact V.own i o b K xd
 .have K:=V.hp _ _ xj _ (RM (i:=0) (k:=i) (by rw [xb]; exact J) (by rw [YaG]; exact xi))
  rw[IL i J,YaG]at K;exact K.2.symm
 .rw [Ycg]
  exact YbV (Cs xj)):p:=h
theorem ZaG(h:p:=by
 obtain⟨A,B,K,Y,E,I⟩:=h;refine⟨⟨by simpa using A,Do B k (YaV _ CP),by rw[a];exact K.set ZbG _,Y.set _ _,?_,λi J=>?_⟩,?_⟩
 .rw [Bh, Ds, Cr ZbG, Bh r, Bh v, N, <-I k (Yah _), u]
  have e:=YcF (z+y+Q) BB
  have G:BB^k*((z+y+Q)%BB)+BB^(k+1)*((z+y+Q)/BB)=BB^k*(z+y+Q):=by
   rw[Ybr,Ybb,<-YaE,e]
  rw[YaE,YaE]at G;omega
 .rw [<-I i ZbG]
  have:k≠i:=by omega
  simp[YcP this]
 .have:=Yby (show z+y+Q<BB*2 by omega)
  omega):p:=h
theorem Zad(h:p:=by
 unfold Region.wanted Fo
 cases T:va.guard with
 |none=>rfl
 |some W=>
  obtain⟨j,b⟩:=W;have q:=(CN E m).2.1 us C;simp only[Fm,Yam]at q;have A:=q.1.2;rw[T]at A;simp only[Yam,Yba]at A;obtain⟨⟨K,Y⟩,B⟩:=A;have I:=Eo E O.closed n us va C m G j (by simpa using K);split at B
  .rename_i t F
   obtain⟨d,f⟩:=YcS.1 B;have:=O.a1 j t d Y F I f;unfold yielded;simp only[YbP,F,Option.bind_some,f,this];cases g j<;>simp
  .cases B):p:=h
theorem ZaS(h:p:=by
 obtain ⟨_,A⟩:=Ki L
 rw[Nat.sub_zero]at A;have K:t<R.length:=(Yae.1 A).1;have Y:=N t d A
 have:(f.toArray++Array.replicate (vO.ntmps-f.toArray.size) undef).getD t undef=f.getD t undef:=by
  rw[YaH,Ydg ZiB];simp
 show AVr (H++[Ow.pin _]).length X s d ((f.toArray++Array.replicate (vO.ntmps-f.toArray.size) undef).getD t undef);rw[this,n];exact Y.mono (Yed _) λ_ _=>rfl):p:=h
theorem Zat(h:p:=by
 go_wp2;refine bodyPost_ret (v:=.agg #[.bool false,.slice A 0 c]) ZdZ rfl ⟨_,_,_,_,rfl,⟨?_,?_⟩,?_⟩
 .rw [p.out,JH];rfl
 .rw [p.out,JH]
  show Words _ _ (Aw 0);rw[BL];have L:=(Ty.new w #[Value.bool false,Value.slice none 0 0] 109).ext Q;exact(m.out.set L ZbL _).set (L.set _ _) ZbL _
 .exact ((((Ext.refl _).alloc _).trans Q).set (Yah _) _).set (Yah _) _):p:=h
theorem Zbi(h:p:=by
 cases I with
 |d x=>exact O
 |ptr i off=>exact O
 |own j=>
  show AVr H.length X s (bif Nat.beq j id then .d (ex (X id))else .own j) v
  cases E:Nat.beq j id with
  |true=>
   have e:j=id:=Yao E;subst e;exact O.2
  |false=>exact O
 |fn f Y=>
  show AVr H.length X s (bif Y.contains id then .d CC else .fn f Y) v
  cases E:Y.contains id with
  |true=>trivial
  |false=>exact O):p:=h
theorem Zay(h:p:=by
 refine⟨by simp,λk B=>?_⟩;simp at B;have O:k%u.cells.size<u.cells.size:=YaV _ ZbG
 refine ⟨u.cells[k % u.cells.size]!, by simp [B], Yaj.1 q _ (by
  have U:u.cells[k%u.cells.size]! = u.cells[k%u.cells.size]'O:=by simp[O]
  rw[U];simp),?_⟩
 have:DM (List.replicate (len*g) CC) k=CC:=by simp[DM,B]
 rw[this];trivial):p:=h
theorem Zbp(h:p:=by
 subst e
 refine Go ?_;refine Dy 3 ?_;refine Dw ?_;refine Go ?_;exact AA (Rets.of2 (ResV.tmp rfl rfl) (ResV.tmp rfl rfl) (Co (Ae ZdA) (Ae ZdB)))):p:=h
theorem Zbo(h:p:=by
 subst g
 refine Go ?_;refine Dy 5 ?_;refine Dw ?_;refine Go ?_;exact AA (Rets.of2 (ResV.tmp rfl rfl) (ResV.tmp rfl rfl) (Co (Ae ZdA) (Ae ZdB)))):p:=h
theorem ZaQ(h:p:=by
 refine Go ?_
 exact AA (Am (ResV.cell rfl rfl (Aa rfl) rfl rfl rfl) (D.le.refl _))):p:=h
theorem Zab(h:p:=by
 obtain⟨q,A⟩:=h;obtain⟨I,s⟩:=StepsAt.at A;refine⟨by simp[I],λk t G m C=>?_⟩
 cases k with
 |zero=>
  simp at m C;subst m;subst C;exact⟨F,rfl,q⟩
 |succ k=>
  simp at m C;obtain⟨Q,hF,Z⟩:=s k t G m C;refine⟨Q,by simpa using hF,?_⟩;have:i+(k+1)=i+1+k:=by omega
  rw[this];exact Z):p:=h
theorem ZaL(h:p:=by
 have L:Ty s (w.heap.size+2) 109:=((Fu _ _ ZbV).alloc _).ext r.out
 have u:Ty s (w.heap.size+3) 109:=(Fu _ _ ZbV).ext r.out;exact(((T.out.set L ZbL _).set (L.set _ _) ZbL _).set ((u.set _ _).set _ _) ZbL _).set (((u.set _ _).set _ _).set _ _) ZbL _):p:=h
theorem ZaK(h:p:=by
 have L:Ty s (w.heap.size+2) 109:=((Fu _ _ ZbV).alloc _).ext r.out
 have u:Ty s (w.heap.size+3) 109:=(Fu _ _ ZbV).ext r.out;exact(((t.out.set L ZbL _).set (L.set _ _) ZbL _).set ((u.set _ _).set _ _) ZbL _).set (((u.set _ _).set _ _).set _ _) ZbL _):p:=h
theorem Zbv(h:p:=by
 have E:O=GH true O p:=by rw [GH, Yan (.inr (.inl ⟨rfl, o⟩))]
 refine Go ?_;refine Ai (L.length-(k+1)) ZbG ⟨k+1,by omega,rfl,rfl⟩ ?_;exact Ac ZcE Zcf):p:=h
theorem Zbu(h:p:=by
 have E:O=GH plain O p:=by rw [GH, Yan (.inl y)]
 refine Go ?_;refine Ai (L.length-(k+1)) ZbG ⟨k+1,by omega,rfl,rfl⟩ ?_;exact Ac ZcE Zcf):p:=h
theorem Zbb(h:p:=by
 obtain rfl:k=8:=by omega
 refine Go ?_
 first | refine Bs RetsA.none rfl ?_ rfl | refine AW RetsA.none rfl ?_ rfl
 exact⟨rfl,rfl⟩):p:=h
theorem Zak(h:p:=by
 rcases YaD j L.length with h | h
 .simp [h]
 .simp [h]):p:=h
theorem Zbl(h:p:=by
 first | refine Bs (RetsA.one rfl) rfl ?_ rfl | refine AW (RetsA.one rfl) rfl ?_ rfl
 exact⟨rfl,by rw[P];rfl⟩):p:=h
theorem Zbw(h:p:=by
 rintro v _ ⟨rfl,rfl⟩;by_cases q:g=0
 .refine Go ?_
  exact AA (Am (ResV.cell rfl rfl (Aa rfl) rfl rfl rfl) (D.le.refl _))
 .refine Go ?_
  exact AA (Am (ResV.cell rfl rfl (Aa rfl) rfl rfl rfl) (D.le.refl _))):p:=h
theorem ZaP(h:p:=by
 obtain rfl:k=P.length:=by omega
 refine Go ?_;exact AA (Am (ResV.tmp rfl rfl) (Ae (by rw[YaT])))):p:=h
theorem ZaD(h:p:=by
 exact ⟨n, 0, List.replicate n 0, Yah _, rfl, rfl, a, by simp, Cx _, Blk.new _ _ _, by
 have B:Z.drop n=[]:=YaL Zct;rw[B];simp[val],(Ext.refl _).alloc _⟩):p:=h
theorem Zaq(h:p:=by
 have L:=(Ty.new w #[Value.bool false,Value.slice none 0 0] 109).ext P.out
 have W:=W.out;rw[AK,show Kb true (-n).toNat=n by simp[Kb];omega]at W;exact(W.set L ZbL _).set (L.set _ _) ZbL _):p:=h
theorem Zar(h:p:=by
 have L:=(Ty.new w #[Value.bool false,Value.slice none 0 0] 109).ext P.out
 have W:=W.out;rw[AK,show Kb false n.toNat=n by simp[Kb];omega]at W;exact(W.set L ZbL _).set (L.set _ _) ZbL _):p:=h
theorem ZaB(h:p:=by
 unfold ZL at B;rw[Yau]at B
 cases N:f[k]? with
 |none=>rw[N]at B;cases B
 |some u=>
  rw[N]at B;cases B;exact⟨u,by simpa using N,Yaj.1 e7 u (YaB N),rfl⟩):p:=h
theorem ZaE(h:p:=by
 have B:=I.out.2.2.2.1;simp only[YaP]at B;rw[B];constructor
 .rw [YaN,YcR a,YbJ V,Ybi]
 .rw [YaN,Ydu,YaS V]):p:=h
theorem ZaY(h:p:=by
 subst q;refine⟨rfl,λi o J=>?_,rfl,A⟩;have A:H.take (wH b).length=wH (b++e):=A;rw[A]at J
 match i,J with
 |0,J=>cases J;intro I O;rw[Yaz.1 O];rfl
 |1,J=>cases J;trivial):p:=h
theorem ZaR(h:p:=by
 rw[YaQ]at J;split at J
 .exact .inl J
 .rename_i xc
  have:i-H.length=0:=by
   have:=Cs J;simp at this;omega
  rw[this]at J;exact .inr (Yag J).symm):p:=h
theorem Zbz(h:p:=by
 cases J;intro p G;obtain⟨k,B,rfl⟩:=KQ G
 match k,B with
 |0,_=>exact⟨YbZ _,rfl⟩
 |1,_=>exact⟨Ydn (YbZ _),rfl⟩):p:=h
theorem Zao(h:p:=by
 exact⟨n,Yah _,rfl,Ext.refl _,λi K=>by
 have C:(Aw x).length<=i:=by rw[<-U.out];exact K
 have E:(Aw y).length<=i:=by rw[<-P.out];exact K
 simp[C,E]⟩):p:=h
theorem ZaO(h:p:=by
 obtain rfl:k=P.length:=by omega
 refine Go ?_;exact AA (Rets.of2 (ResV.tmp rfl rfl) (ResV.tmp rfl rfl) (Co (Ae (by rw[YaT];rfl)) (D.le.refl _)))):p:=h
theorem ZaI(h:p:=by
 have:(U.take (k+1)).getD k 0=(g.take (k+1)).getD k 0:=by rw[Z]
 simp only[Yab,YaK]at this;simpa using this.symm):p:=h
theorem ZaX(h:p:=by
 rw [getD_set_ne false (λe=>E e.symm)]
 exact⟨.inr,λh=>h.resolve_left E⟩):p:=h
theorem ZaH(h:p:=by
 have:(U.take (k+1)).take k=(g.take (k+1)).take k:=by rw[Z]
 rw[YeJ,YeJ,Ybx ZbG]at this;exact this.symm):p:=h
theorem ZaF(h:p:=by
 have:k≠i:=by omega
 simp[YcP this]):p:=h
theorem Zau(h:p:=by
 rw [MG]
 have L:=(Ty.new w #[Value.bool false,Value.slice none 0 0] 109).ext Q;exact(m.out.set L ZbL _).set (L.set _ _) ZbL _):p:=h
theorem Zaj(h:p:=by
 rcases YaD i sh.length with Q | hge
 .exact Q
 .have:=KH H xa.size xa.closed hge r xf j0 ZbG
  rw[xs]at this;cases this):p:=h
theorem Zas(h:p:=by
 have L:Ty M (w.heap.size+2) 109:=(Fu _ _ ZbV).drew.ext Q.out
 exact(r.out.set L ZbL _).set (L.set _ _) ZbL _):p:=h
theorem ZaU(h:p:=by
 rcases xa i o J with q | rfl
 .rcases xa j O W with A | rfl
  .exact xg i j o O z q A b xd xh
  .exact xh.elim
 .exact xd.elim):p:=h
theorem ZaA(h:p:=by
 rename_i O
 rw[Yai ZbG]at M;rcases E k t z B M with A | ⟨j,A,h3⟩
 .exact .inl A
 .exact .inr ⟨j,by omega,h3⟩):p:=h
theorem Zaz(h:p:=by
 have O:=h y (by rw [V]; simp [Op.operands])
 rw[N]at O;exact⟨_,rfl,.inl (by show some (M y)=_;rw[show M y=_ from O])⟩):p:=h
theorem Zbd(h:p:=by
 have Y:=h y (by rw [e]; simp [Op.operands])
 rw[O]at Y;exact⟨_,rfl,.inl (by show some (V y)=_;rw[show V y=_ from Y])⟩):p:=h
theorem Zax(h:p:=by
 rcases q.2 with⟨w1,_⟩ | ⟨g,cap,cur,w1,_,_,w2,_⟩
 .exact ⟨none,0,0,w1,Yah _⟩
 .exact ⟨_,_,_,w1,w2⟩):p:=h
theorem ZaV(h:p:=by
 rw[Ycb]at J;split at J
 .split at J
  .exact .inl (Yag J).symm
  .cases J
 .exact .inr J):p:=h
theorem Zap(h:p:=by
 subst g
 go_wp2;go_ret;exact⟨by rw[SM ZdT (λi=>Q.out.2 i (Yaw _))];rfl,Q.out.1⟩):p:=h
theorem ZaC(h:p:=by
 obtain rfl:k=8:=by omega
 go_wp2;go_ret;exact⟨rfl,Q.out⟩):p:=h
theorem ZaJ(h:p:=by
 have:(List.replicate (m-(n+1)+1) 0).drop (m-(n+1)+1)=[]:=YaL ZbV
 rw[this];simp[val]):p:=h
theorem Zaw(h:p:=by
 rw [Yan P]at L
 cases L;subst P;have:d<a.tmps.size:=by rw[h.sz];exact e d rfl
 simp[this];exact V):p:=h
theorem ZaT(h:p:=by
 intro p S
 obtain⟨k,q,rfl⟩:=KQ S;rw[xb]at q;rw[YaG];exact⟨by omega,IL k q⟩):p:=h
theorem Zae(h:p:=by
 cases T:U.getD j false with
 |true=>rfl
 |false=>have:=Sz (by rw[xa.size];exact W) T;omega):p:=h
theorem Zbr(h:p:=by
 refine Go ?_
 exact AA (Am (ResV.cell rfl rfl (Aa rfl) rfl rfl rfl) (Ae Zen))):p:=h
theorem Zbj(h:p:=by
 have h:(!Nat.beq i n)=true:=h;have h:Nat.beq i n=false:=by simpa using h
 simp[Vc,h]):p:=h
theorem ZaM(h:p:=by
 go_enter Tryz.func218,Tryz.ntmps218
 go_wp2;go_ret;exact⟨by simp[a.out],Q.out⟩):p:=h
theorem Zam(h:p:=by
 rcases YaM.1 hF with rfl | hF
 .exact h.1
 .exact StabAll.mem h.2 F hF):p:=h
theorem Zai(h:p:=by
 cases T:U.getD j false with
 |true=>rfl
 |false=>exact absurd ⟨j,W,T⟩ xm):p:=h
theorem ZaN(h:p:=by
 go_wp2
 go_ret;exact⟨by rw[c.out];rfl,Q.out.trans (L.out.trans P.out)⟩):p:=h
theorem ZbA(h:p:=by
 first | refine Bs RetsA.none rfl ?_ rfl | refine AW RetsA.none rfl ?_ rfl
 exact⟨rfl,rfl⟩):p:=h
theorem ZbB(h:p:=by repeat (first | exact SelR.nil | refine SelR.var rfl ?_ | refine SelR.obj rfl ?_ | refine SelR.row rfl ?_ | refine SelR.varA rfl rfl rfl ?_)):p:=h
theorem ZbC(h:p:=by first | exact Or.inl rfl | exact Or.inr ⟨by decide,rfl,by repeat (first | exact AvoidR.nil | refine Aj rfl ?_ | refine AvoidR.dead ?_ | refine AvoidR.row ?_ | refine AvoidR.obj ?_ | refine AvoidR.varD ?_ | refine AvoidR.varA rfl ?_ | refine AvoidR.pin rfl ?_)⟩):p:=h
theorem ZbD(h:p:=by repeat (first | exact ArgsC.nil | refine ArgsC.d rfl (D.le.refl _) ?_ | refine ArgsC.av rfl rfl ?_)):p:=h
theorem ZbE{α:Sort _}{r:α->Prop}(h:∀x,r x:=by intro _;first | exact AE (ah rfl) | exact Ar (ah rfl) (Aa rfl) rfl (Aa rfl) rfl rfl | exact AD | exact Ao | (apply As;refine AI (Aa rfl) rfl rfl rfl ?_;(repeat ((first | refine⟨_,Az (ah rfl),?_⟩ | refine⟨_,Po rfl,?_⟩);refine⟨_,rfl,?_⟩));refine⟨_,rfl,?_⟩;rfl)):∀x,r x:=h
theorem ZbF(h:p:=by first | exact .inl ⟨rfl,rfl,rfl⟩ | exact .inr (.inr ⟨rfl,rfl,rfl⟩)):p:=h
theorem ZbG(h:p:=by omega):p:=h
theorem ZbH(h:p:=by repeat (first | exact trivial | refine⟨⟨_,_,rfl⟩,?_⟩)):p:=h
theorem ZbI(h:p:=by repeat (first | exact AvoidR.nil | refine Aj rfl ?_ | refine AvoidR.dead ?_ | refine AvoidR.row ?_ | refine AvoidR.obj ?_ | refine AvoidR.varD ?_ | refine AvoidR.varA rfl ?_ | refine AvoidR.pin rfl ?_)):p:=h
theorem ZbJ(h:p:=by refine HpLe.cons (OwLe.dead) ?_;refine HpLe.cons (OwLe.dead) ?_;exact Zje):p:=h
theorem ZbK(h:p:=by kernel_rfl):p:=h
theorem ZbL(h:p:=by decide):p:=h
theorem ZbM(h:p:=by first | ((repeat (first | exact PlainHp.nil | refine PlainHp.var ?_ | refine PlainHp.row ?_ | refine PlainHp.dead ?_ | refine PlainHp.obj ?_ | refine PlainHp.pin rfl ?_ | refine PlainHp.varA rfl ?_));done) | fail):p:=h
theorem ZbN(h:p:=by first | exact AE (ah rfl) | exact Ar (ah rfl) (Aa rfl) rfl (Aa rfl) rfl rfl | exact AD | exact Ao):p:=h
theorem ZbO(h:p:=by first | omega | (simp only[Yaa];omega)):p:=h
theorem ZbP(h:p:=by exact HpLe.cons (Ad rfl)<|Yr<|HpLe.cons (Ak rfl)<|HpLe.cons (Ad rfl)<|HpLe.nil):p:=h
theorem ZbQ(h:p:=by repeat (first | exact DsLe.nil | refine DsLe.cons (D.le.refl _) ?_ | refine DsLe.cons (Ae (by first | rfl | (congr 2;omega))) ?_ | refine DsLe.cons AM ?_)):p:=h
theorem ZbR(h:p:=by first | (simp only[CQ,Yay,Ybk];omega) | (simp[CQ];done) | (simp[CQ];omega)):p:=h
theorem ZbS(h:p:=by exact Yp<|FrLe.cons rfl (BY rfl)<|FrLe.cons rfl (AVle.own rfl)<|Yd<|Yd<|FrLe.nil):p:=h
theorem ZbT(h:p:=by rw[YcJ];simp[DS,FF,JV,EE,Mt,LC,<-Ei,and_assoc,OZ,OT,PE,PF];try (simp[N]);try (intros;omega)):p:=h
theorem ZbU(h:p:=by first | omega | (simp;omega)):p:=h
theorem ZbV(h:p:=by simp):p:=h
theorem ZbW(h:p:=by exact Yp<|FrLe.cons rfl (BY rfl)<|Yd<|Yd<|Yd<|FrLe.nil):p:=h
theorem ZbX(h:p:=by first | exact CU rfl | exact CX | exact One.ep):p:=h
theorem ZbY(h:p:=by first | ((repeat (first | exact ArgsLe.nil | refine ArgsLe.cons rfl (D.le.refl _) ?_ | refine ArgsLe.cons rfl AM ?_));done) | fail):p:=h
theorem ZbZ(h:p:=by dsimp only;omega):p:=h
theorem Zca(h:p:=by simp only[Yaa];omega):p:=h
theorem Zcb(h:p:=by simp only[YaR];omega):p:=h
theorem Zcc{α:Sort _}{r:α->Prop}(h:∀x,r x:=by intro _;first | exact AE (ah rfl) | exact Bg (ah rfl) | exact Ar (ah rfl) (Aa rfl) rfl (Aa rfl) rfl rfl | exact AD | exact Ao):∀x,r x:=h
theorem Zce(h:p:=by exact FrLe.cons rfl (AVle.own rfl)<|Yp<|Yd<|FrLe.nil):p:=h
theorem Zcf(h:p:=by exact HpLe.nil):p:=h
theorem Zcg(h:p:=by exact Yp<|Yd<|FrLe.nil):p:=h
theorem Zch(h:p:=by apply As;refine AI (Aa rfl) rfl rfl rfl ?_;refine⟨_,rfl,?_⟩;rfl):p:=h
theorem Zci(h:p:=by exact Yp<|Yp<|FrLe.nil):p:=h
theorem Zcj(h:p:=by exact FrLe.cons rfl (AVle.own rfl)<|Yd<|Yd<|FrLe.nil):p:=h
theorem Zck(h:p:=by exact Yp<|Yd<|Yd<|FrLe.nil):p:=h
theorem Zcl(h:p:=by exact HpLe.cons (Ad rfl)<|HpLe.cons (Ak rfl)<|Yr<|HpLe.nil):p:=h
theorem Zcm(h:p:=by exact Yp<|Yp<|Yd<|Yd<|Yd<|FrLe.nil):p:=h
theorem Zcn(h:p:=by exact Yd<|Yd<|Yd<|Yd<|FrLe.nil):p:=h
theorem Zco(h:p:=by refine Yd ?_;refine Yd ?_;(refine FrLe.cons rfl (AVle.le (Ae (by rw[N,<-E];unfold Ba;congr 1;simp[FE,YdV,YdU]))) ?_);exact Yd<|FrLe.nil):p:=h
theorem Zcp(h:p:=by rw[YcJ];simp[Dd,FY,and_assoc]):p:=h
theorem Zcq(h:p:=by exact HpLe.cons (Ad rfl)<|HpLe.cons (OwLe.row ZdD)<|HpLe.cons (Ak rfl)<|HpLe.nil):p:=h
theorem Zcr(h:p:=by rw[h];omega):p:=h
theorem Zcs(h:p:=by exact Yp<|Yp<|Yp<|Yp<|Yd<|Yd<|Yp<|Yd<|FrLe.nil):p:=h
theorem Zct(h:p:=by rw[<-U.out];omega):p:=h
theorem Zcu(h:p:=by exact Yv<|Yv<|Yv<|Yv<|Yv<|HpLe.nil):p:=h
theorem Zcv(h:p:=by exact ArgsLe.cons rfl (D.le.refl _) ArgsLe.nil):p:=h
theorem Zcw(h:p:=by exact Yd<|Yd<|FrLe.cons rfl (AVle.own rfl)<|Yd<|Yd<|FrLe.nil):p:=h
theorem Zcx(h:p:=by exact HpLe.cons (Ad rfl)<|HpLe.cons (OwLe.row (by simp[DC]))<|HpLe.cons (Ak rfl)<|HpLe.nil):p:=h
theorem Zcy(h:p:=by exact Yp<|Yp<|Yp<|Yp<|Yd<|Yd<|Yp<|Yd<|Yd<|FrLe.nil):p:=h
theorem Zcz(h:p:=by assumption):p:=h
theorem ZcA(h:p:=by exact Yv<|Yv<|HpLe.nil):p:=h
theorem ZcB(h:p:=by refine HpLe.cons (OwLe.cells ZcO) ?_;exact Zje):p:=h
theorem ZcC(h:p:=by repeat (first | exact FrLe.nil | refine Yp ?_ | refine Yd ?_)):p:=h
theorem ZcD(h:p:=by repeat (first | exact DownR.nil | (apply DownR.varA;exact rfl) | apply DownR.row | apply DownR.obj | apply DownR.dead | (apply DownR.pin;exact rfl))):p:=h
theorem ZcE(h:p:=by refine Yd ?_;refine Yd ?_;refine FrLe.cons rfl (AVle.le (Ae (by rw[N,<-E]))) ?_;exact Yd<|FrLe.nil):p:=h
theorem ZcF(h:p:=by simp[Bp];omega):p:=h
theorem ZcG(h:p:=by exact Yv<|HpLe.nil):p:=h
theorem ZcH(h:p:=by rw[IntKind.wrap_u8];omega):p:=h
theorem ZcI(h:p:=by exact FrLe.cons rfl (AVle.own rfl)<|Yd<|Yd<|Yd<|FrLe.nil):p:=h
theorem ZcJ(h:p:=by refine HpLe.cons (OwLe.cells (CellsLe.cons (AVle.int ZbG) (CellsLe.cons (AVle.int ZbG) (CellsLe.cons (AVle.int ZbG) CellsLe.nil)))) ?_;refine HpLe.cons (OwLe.cells (CellsLe.cons (AVle.int ZbG) (CellsLe.cons (AVle.int ZbG) (CellsLe.cons (AVle.int ZbG) CellsLe.nil)))) ?_;exact HpLe.nil):p:=h
theorem ZcK(h:p:=by exact HpLe.cons (Ad rfl)<|HpLe.cons (Ak rfl)<|HpLe.cons (OwLe.row ZbV)<|HpLe.nil):p:=h
theorem ZcL(h:p:=by exact HpLe.cons (Ad rfl)<|HpLe.cons (OwLe.row ZbV)<|HpLe.cons (Ak rfl)<|HpLe.nil):p:=h
theorem ZcM(h:p:=by refine DSteps.q rfl ZbE ?_;refine DSteps.q rfl ZbE ?_;refine DSteps.q rfl ZbE ?_;refine DSteps.q rfl ZbE ?_;refine DSteps.q rfl ZbE ?_;refine DSteps.q rfl (λ_=>BQ (ah rfl) Z (ArgsLe.cons rfl (D.le.refl _) (ArgsLe.cons rfl (D.le.refl _) ArgsLe.nil))) ?_;refine DSteps.q rfl (λ_=>Cc (ah rfl) (Aa rfl) (Aa rfl) rfl rfl rfl rfl rfl) ?_;refine DSteps.k rfl (DTurn.rows rfl rfl rfl (Aa rfl) (Aa rfl) rfl rfl rfl rfl ZiB ZiB) ?_;refine DSteps.q rfl ZbE ?_;exact DSteps.nil):p:=h
theorem ZcN(h:p:=by rw[ES ZbG];omega):p:=h
theorem ZcO(h:p:=by repeat (first | exact CellsLe.nil | refine CellsLe.cons (AVle.d rfl) ?_ | refine CellsLe.cons (AVle.le AM) ?_)):p:=h
theorem ZcP(h:p:=by exact HpLe.cons (OwLe.row ZbV)<|HpLe.cons (Ak rfl)<|HpLe.nil):p:=h
theorem ZcQ(h:p:=by rw[YbU ZbG,ES ZbG];omega):p:=h
theorem ZcR(h:p:=by simp<;>omega):p:=h
theorem ZcS(h:p:=by refine CSteps.s ?_;refine ET ?_;refine ET ?_;refine ET ?_;refine ET ?_;refine ET ?_;refine ET ?_;refine Ox (g0) ?_;refine ET ?_;refine ET ?_;refine ET ?_;refine ET ?_;refine ET ?_;refine ET ?_;refine Ox (o) ?_;refine CSteps.s ?_;exact CSteps.nil):p:=h
theorem ZcT(h:p:=by exact Yd<|Yd<|Yd<|FrLe.cons rfl (AVle.own rfl)<|Yd<|FrLe.nil):p:=h
theorem ZcU(h:p:=by exact HpLe.cons (OwLe.row ZbV)<|HpLe.cons (Ak rfl)<|HpLe.cons (Ad rfl)<|HpLe.nil):p:=h
theorem ZcV(h:p:=by exact Yd<|Yd<|Yd<|FrLe.nil):p:=h
theorem ZcW(h:p:=by simp[Op.operands]):p:=h
theorem ZcX(h:p:=by rw[M];exact DY O V N):p:=h
theorem ZcY(h:p:=by exact Yp<|Yp<|Yd<|FrLe.nil):p:=h
theorem ZcZ(h:p:=by rw[BE];omega):p:=h
theorem Zda(h:p:=by exact HpLe.cons (OwLe.dead)<|HpLe.cons (OwLe.dead)<|HpLe.nil):p:=h
theorem Zdb(h:p:=by exact HpLe.cons (OwLe.row (by simp[DC]))<|HpLe.cons (Ak rfl)<|HpLe.cons (Ad rfl)<|HpLe.nil):p:=h
theorem Zdc(h:p:=by exact Yr<|HpLe.cons (Ak rfl)<|HpLe.cons (Ad rfl)<|HpLe.nil):p:=h
theorem Zdd(h:p:=by rw[Ycl ZbG];omega):p:=h
theorem Zde(h:p:=by simp[Op.operands,Call.operands]):p:=h
theorem Zdf(h:p:=by simpa using h):p:=h
theorem Zdg(h:p:=by exact Yp<|Yd<|Yd<|Yd<|FrLe.nil):p:=h
theorem Zdh(h:p:=by exact Yp<|Yp<|Yp<|Yd<|FrLe.nil):p:=h
theorem Zdi(h:p:=by exact HpLe.cons (OwLe.dead)<|HpLe.cons (OwLe.dead)<|Yv<|Yv<|Yv<|Yv<|HpLe.nil):p:=h
theorem Zdj(h:p:=by rw[G];simp[Op.operands,Call.operands]):p:=h
theorem Zdk(h:p:=by exact Yp<|FrLe.cons rfl (AVle.own rfl)<|FrLe.nil):p:=h
theorem Zdl(h:p:=by refine DG (Aa rfl) (Aa rfl) rfl rfl rfl rfl rfl ?_;refine⟨_,PartOk.one rfl (by exact CU rfl),?_⟩;refine⟨_,rfl,?_⟩;refine⟨_,rfl,?_⟩;rfl):p:=h
theorem Zdm(h:p:=by rw[E];simp[Op.operands]):p:=h
theorem Zdn(h:p:=by simpa using B):p:=h
theorem Zdo(h:p:=by simpa using I):p:=h
theorem Zdp(h:p:=by exact HpLe.cons (OwLe.row (by simp[DC]))<|HpLe.cons (Ak rfl)<|HpLe.nil):p:=h
theorem Zdq(h:p:=by apply Yv;apply Yv;(refine HpLe.cons (OwLe.row ((IK QA _ ⟨c*(Bv P k).c,CT m (Bv P k).m⟩).trans (by rw[<-p];simp[TX]))) ?_);exact HpLe.nil):p:=h
theorem Zdr(h:p:=by exact HpLe.cons (Ad rfl)<|HpLe.cons (Ad rfl)<|HpLe.cons (Ad rfl)<|HpLe.cons (Ad rfl)<|HpLe.cons (Ad rfl)<|HpLe.cons (OwLe.obj rfl)<|HpLe.nil):p:=h
theorem Zds(h:p:=by repeat (first | exact CellsLe.nil | refine CellsLe.cons (AVle.rows (id:=5) rfl) ?_ | refine CellsLe.cons (AVle.d rfl) ?_)):p:=h
theorem Zdt(h:p:=by rw[Q];simp[Op.operands]):p:=h
theorem Zdu(h:p:=by exact ArgsLe.nil):p:=h
theorem Zdv(h:p:=by rw[I];exact ZiB):p:=h
theorem Zdw(h:p:=by exact HpLe.cons (Ad rfl)<|HpLe.cons (Ak rfl)<|HpLe.cons (Ad rfl)<|HpLe.cons (Ad rfl)<|HpLe.cons (OwLe.obj rfl)<|HpLe.nil):p:=h
theorem Zdx(h:p:=by exact Yd<|Yd<|Yd<|Yd<|Yd<|Yd<|FrLe.nil):p:=h
theorem Zdy(h:p:=by rw[Yaa];omega):p:=h
theorem Zdz(h:p:=by exact Yr<|HpLe.nil):p:=h
theorem ZdA(h:p:=by simp[Kn, *]):p:=h
theorem ZdB(h:p:=by simp[Ko, *]):p:=h
theorem ZdC(h:p:=by refine HpLe.cons (Ad rfl) ?_;(refine HpLe.cons (OwLe.row (by rw[S];simp)) ?_);exact HpLe.cons (Ak rfl)<|HpLe.nil):p:=h
theorem ZdD(h:p:=by rw[Es,<-Yaf]):p:=h
theorem ZdE(h:p:=by cases h):p:=h
theorem ZdF(h:p:=by exact Yd<|Yd<|Yp<|Yp<|Yd<|FrLe.nil):p:=h
theorem ZdG(h:p:=by first | exact CX | exact One.own rfl | exact One.ep):p:=h
theorem ZdI(h:p:=by simpa using A):p:=h
theorem ZdJ(h:p:=by exact Yd<|Yp<|Yp<|Yd<|FrLe.nil):p:=h
theorem ZdK(h:p:=by repeat (first | exact DsLe.nil | refine DsLe.cons (D.le.refl _) ?_ | refine DsLe.cons AM ?_)):p:=h
theorem ZdL(h:p:=by rw[I.out.1];omega):p:=h
theorem ZdM(h:p:=by exact HpLe.cons (OwLe.varD rfl) (HpLe.cons (OwLe.varD rfl) (HpLe.cons (Ak rfl) HpLe.nil))):p:=h
theorem ZdN(h:p:=by simp[execOp,K,go_sem]):p:=h
theorem ZdO(h:p:=by repeat (first | exact HpLe.nil | apply Yv)):p:=h
theorem ZdP(h:p:=by rintro _ _ ⟨x,J,h,_⟩;rw[A]at h;cases h):p:=h
theorem ZdQ(h:p:=by cases o<;>rfl):p:=h
theorem ZdR(h:p:=by simpa using m):p:=h
theorem ZdS(h:p:=by simpa using q):p:=h
theorem ZdT(h:p:=by rw[<-U.out,<-P.out]):p:=h
theorem ZdU(h:p:=by exact HpLe.cons (OwLe.row ZdD)<|HpLe.cons (Ak rfl)<|HpLe.cons (Ad rfl)<|HpLe.nil):p:=h
theorem ZdV(h:p:=by exact ArgsLe.cons rfl (D.le.refl _) (ArgsLe.cons rfl (D.le.refl _) ArgsLe.nil)):p:=h
theorem ZdW(h:p:=by exact Yd<|Yd<|Yp<|Yd<|Yd<|Yd<|FrLe.nil):p:=h
theorem ZdX(h:p:=by exact Yd<|Yp<|Yp<|Yp<|Yp<|Yd<|FrLe.nil):p:=h
theorem ZdY(h:p:=by exact Yp<|Yp<|Yp<|Yd<|Yd<|Yd<|FrLe.nil):p:=h
theorem ZdZ(h:p:=by simp[results,Tryz.results239,go_sem,N]):p:=h
theorem Zea(h:p:=by show 7*i<=64;omega):p:=h
theorem Zeb(h:p:=by simpa[Ybh]using B):p:=h
theorem Zec(h:p:=by exact h):p:=h
theorem Zed(h:p:=by exact FrLe.cons rfl (AVle.ptr rfl) (FrLe.cons rfl (AVle.ptr rfl) FrLe.nil)):p:=h
theorem Zee(h:p:=by rw[p.out.1];omega):p:=h
theorem Zef(h:p:=by rw[G];simp[Op.operands]):p:=h
theorem Zeg(h:p:=by rw[V];simp[Op.operands]):p:=h
theorem Zeh(h:p:=by rw[p];exact e):p:=h
theorem Zei(h:p:=by simpa using C):p:=h
theorem Zej(h:p:=by show 0<v.getD (m+1) 0;have:v.getD (m+2-1) 0=v.getD (m+1) 0:=rfl;omega):p:=h
theorem Zek(h:p:=by rw[xn.out];omega):p:=h
theorem Zel(h:p:=by exact Yd<|Yd<|Yd<|Yd<|Yd<|FrLe.cons rfl (AVle.own rfl)<|Yd<|FrLe.nil):p:=h
theorem Zem(h:p:=by exact Yp<|Yp<|Yd<|FrLe.cons rfl (AVle.own rfl)<|Yd<|Yd<|Yd<|FrLe.nil):p:=h
theorem Zen(h:p:=by simp[Tw, *]):p:=h
theorem Zeo(h:p:=by simp[execOp,E,go_sem]):p:=h
theorem Zep(h:p:=by simp[execOp,I,go_sem]):p:=h
theorem Zeq(h:p:=by exact HpLe.cons (OwLe.dead)<|HpLe.cons (OwLe.dead)<|Yv<|HpLe.nil):p:=h
theorem Zer(h:p:=by refine HpLe.cons (OwLe.row (IK QA R (Bv P i))) ?_;exact HpLe.nil):p:=h
theorem Zes(h:p:=by refine HpLe.cons (OwLe.row (IK QA R (Bv Q k))) ?_;exact HpLe.nil):p:=h
theorem Zet(h:p:=by simp only[BB,Nat.pow_one];omega):p:=h
theorem Zeu(h:p:=by exact HpLe.cons (OwLe.row ZdD)<|HpLe.cons (Ak rfl)<|HpLe.nil):p:=h
theorem Zev(h:p:=by exact Yd<|Yp<|Yp<|FrLe.cons rfl (AVle.own rfl)<|Yd<|FrLe.nil):p:=h
theorem Zew(h:p:=by exact Yv<|Yv<|Yv<|Yv<|Yv<|HpLe.cons (OwLe.obj rfl)<|HpLe.nil):p:=h
theorem Zex(h:p:=by exact Yp<|Yp<|Yp<|Yp<|Yd<|Yd<|Yp<|Yd<|Yd<|Yp<|Yd<|FrLe.nil):p:=h
theorem Zey(h:p:=by rw[e]):p:=h
theorem Zez(h:p:=by simpa using W):p:=h
theorem ZeA(h:p:=by exact FrLe.cons rfl (AVle.own rfl)<|Yp<|Yd<|Yd<|FrLe.nil):p:=h
theorem ZeB(h:p:=by exact Yd<|Yd<|FrLe.cons rfl (AVle.own rfl)<|Yd<|FrLe.nil):p:=h
theorem ZeC(h:p:=by simp[ZJ, *]):p:=h
theorem ZeD(h:p:=by exact HpLe.cons (Ad rfl)<|HpLe.cons (Ak rfl)<|HpLe.nil):p:=h
theorem ZeE(h:p:=by rw[<-P.out];omega):p:=h
theorem ZeF(h:p:=by rw[IntKind.wrap_i64];omega):p:=h
theorem ZeH(h:p:=by exact FrLe.cons rfl (Is rfl (D.le.refl _))<|FrLe.nil):p:=h
theorem ZeI(h:p:=by rw[f,e]):p:=h
theorem ZeJ(h:p:=by exact FrLe.cons rfl (AVle.own rfl)<|Yd<|FrLe.nil):p:=h
theorem ZeK(h:p:=by rw[BE];exact xe):p:=h
theorem ZeL(h:p:=by rw[I];simp[Op.operands]):p:=h
theorem ZeM(h:p:=by rw[N.out.2.2.2.1];omega):p:=h
theorem ZeO(h:p:=by rw[show rgP kind u x v I=false from q];simp[k]):p:=h
theorem ZeQ(h:p:=by simp[execOp,e6,go_sem]):p:=h
theorem ZeR(h:p:=by simp[execOp,e7,go_sem]):p:=h
theorem ZeS(h:p:=by simp[execOp,e8,go_sem]):p:=h
theorem ZeT(h:p:=by have:=(Yae.1 W).1;omega):p:=h
theorem ZeU(h:p:=by simp[execOp,W,go_sem]):p:=h
theorem ZeV(h:p:=by simp[execOp,Y,go_sem]):p:=h
theorem ZeW(h:p:=by rw[YbS,YaO];omega):p:=h
theorem ZeX(h:p:=by simp[execOp,resolve,invoke,p,xc,xe,go_sem]):p:=h
theorem ZeY(h:p:=by simpa using F):p:=h
theorem ZeZ(h:p:=by simpa using O):p:=h
theorem Zfa(h:p:=by rw[YbT,Yda 1];exact F):p:=h
theorem Zfb(h:p:=by rw [<-U.out];omega):p:=h
theorem Zfc(h:p:=by simp[execOp,resolve,invoke,p,e9,go_sem]):p:=h
theorem Zfd(h:p:=by simp[results,Tryz.results290,go_sem,xb]):p:=h
theorem Zfe(h:p:=by exact Yd<|Yp<|Yp<|Yd<|Yd<|Yd<|FrLe.nil):p:=h
theorem Zff(h:p:=by simp[results,Tryz.results139,go_sem,N]):p:=h
theorem Zfg(h:p:=by simp[results,Tryz.results141,go_sem,N]):p:=h
theorem Zfh(h:p:=by simp[results,Tryz.results236,go_sem,N]):p:=h
theorem Zfi(h:p:=by simp[results,Tryz.results291,go_sem,O]):p:=h
theorem Zfj(h:p:=by rw[W];simp[Op.operands,Call.operands]):p:=h
theorem Zfk(h:p:=by rw[w];simp[Op.operands,Call.operands]):p:=h
theorem Zfl(h:p:=by show m<=(G.hp++[_]).length;exact ZiB):p:=h
theorem Zfm(h:p:=by rw[<-m.out];omega):p:=h
theorem Zfn(h:p:=by rw[J.out.1];omega):p:=h
theorem Zfo(h:p:=by rw[O.out.1];omega):p:=h
theorem Zfp(h:p:=by rw[V];simp[Cq,Cu]):p:=h
theorem Zfq(h:p:=by rw[Y.out.1];omega):p:=h
theorem Zfr(h:p:=by rw[Cm CA O,<-Yaf];rfl):p:=h
theorem Zfs(h:p:=by rw[Ybq h];decide):p:=h
theorem Zft(k:q)(h:Zaa q->p:=by intro qq;refine HYSteps.cons (.q rfl (Ar rfl (Aa rfl) rfl (Aa rfl) rfl rfl)) ?_;refine HYSteps.cons (.q rfl (BU rfl rfl (Aa rfl) rfl rfl)) ?_;exact qq.a):p:=h ⟨k⟩
theorem Zfv(k:q)(h:Zaa q->p:=by intro qq;refine Go ?_;refine Bd [0] [] [] (F) (BX rfl) (λN=>(by repeat (first | exact AN (HA N) | apply AH | apply PanQ.block | apply PanQ.loop):PanQ _ _) _) rfl rfl ZbF ZbD ZbL ZbB ZbH trivial rfl ?_;exact qq.a):p:=h ⟨k⟩
theorem Zfw(k:q)(h:Zaa q->p:=by intro qq;refine Go ?_;refine Bd [0] [0] [] (F) (BX rfl) (λN=>(by repeat (first | exact AN ZcX | apply AH | apply PanQ.block | apply PanQ.loop):PanQ _ _) _) rfl rfl ZbF ZbD ZbL ZbB ZbH trivial rfl ?_;exact qq.a):p:=h ⟨k⟩
theorem Zfx(h:p:=by refine Go ?_;exact Yf):p:=h
theorem Zfy(k:q)(h:Zaa q->p:=by intro qq;refine Go ?_;refine FinP.ret (RetsA.d (Am (ResV.cell rfl rfl (Aa rfl) rfl rfl rfl) (D.le.refl _))) rfl ?_ rfl;exact qq.a):p:=h ⟨k⟩
theorem Zfz(k:q)(h:Zaa q->p:=by intro qq;refine Go ?_;refine Bd [0] [] [] (F) (BX rfl) (λN=>(by repeat (first | exact AN (Rd.none N) | apply AH | apply PanQ.block | apply PanQ.loop):PanQ _ _) _) rfl rfl ZbF ZbD ZbL ZbB ZbH trivial rfl ?_;exact qq.a):p:=h ⟨k⟩
theorem ZfA(k:q)(h:Zaa q->p:=by intro qq;refine HYSteps.cons (.s rfl rfl rfl ZbL rfl rfl (Aa rfl)) ?_;refine HYSteps.cons (.q rfl (Bg rfl)) ?_;exact qq.a):p:=h ⟨k⟩
theorem ZfB(k:q)(h:Zaa q->p:=by intro qq;refine Go ?_;refine Ai (L.length-(k+1)) ZbG ⟨k+1,by omega,rfl,rfl⟩ ?_;exact qq.a):p:=h ⟨k⟩
theorem ZfC(h:p:=by refine Go ?_;exact AA (Am (ResV.cell rfl rfl (Aa rfl) rfl rfl rfl) (D.le.refl _))):p:=h
theorem ZfG(h:p:=by refine Go ?_;exact AA (Am (ResV.cell rfl rfl (Aa rfl) rfl rfl rfl) (Ce ZbQ))):p:=h
theorem ZfH(k:q)(h:Zaa q->p:=by intro qq;refine Go ?_;refine Wq (Hu (ao rfl) (ao rfl) (Aa rfl) (Aa rfl) rfl O (Dm (λ_=>rfl) O)) ?_;exact qq.a):p:=h ⟨k⟩
theorem ZfJ(k:q)(h:Zaa q->p:=by intro qq;refine Go ?_;refine EF (λR=>AG) ?_;exact qq.a):p:=h ⟨k⟩
theorem ZfK(k:q)(h:Zaa q->p:=by intro qq;refine Wq (DP (r:=((k+1:Nat):Int)) (ao rfl) (ao rfl) ZcN) ?_;refine Go ?_;exact qq.a):p:=h ⟨k⟩
theorem ZfL(k:q)(h:Zaa q->p:=by intro qq;refine Go ?_;refine AU [0,1] [] [] (d) ZbC rfl rfl ZbF ZbD ZbL ZbB ZbH trivial rfl ?_;exact qq.a):p:=h ⟨k⟩
theorem ZfN(k:q)(h:Zaa q->p:=by intro qq;refine Kr ?_;refine Go ?_;exact qq.a):p:=h ⟨k⟩
theorem ZfO(k:q)(h:Zaa q->p:=by intro qq;refine Wq (EP (ao rfl)) ?_;refine AU [0,1] [] [] (F) ZbC rfl rfl ZbF ZbD ZbL ZbB ZbH trivial rfl ?_;exact qq.a):p:=h ⟨k⟩
theorem ZfP(k:q)(h:Zaa q->p:=by intro qq;refine Go ?_;refine Ai (P.length-(k+1)) ZbG ⟨k+1,by omega,rfl,rfl⟩ ?_;exact qq.a):p:=h ⟨k⟩
theorem ZfQ(k:q)(h:Zaa q->p:=by intro qq;refine Kr ?_;refine Wq (Cc (ao rfl) (Aa rfl) (Aa rfl) rfl rfl rfl rfl rfl) ?_;exact qq.a):p:=h ⟨k⟩
theorem ZfR(h:p:=by refine Go ?_;exact AA (Am (ResV.cell rfl rfl (Aa rfl) rfl rfl rfl) (Ae Zen))):p:=h
theorem ZfS(h:p:=by refine Go ?_;exact AA (Am (ResV.cell rfl rfl (Aa rfl) rfl rfl rfl) (Ae ZeC))):p:=h
theorem ZfT(k:q)(h:Zaa q->p:=by intro qq;refine HYSteps.cons (.n rfl (Aa rfl) rfl rfl rfl rfl rfl) ?_;refine HYSteps.cons (.q rfl (Bg rfl)) ?_;refine HYSteps.cons (.q rfl (Bg rfl)) ?_;exact qq.a):p:=h ⟨k⟩
theorem ZfU(k:q)(h:Zaa q->p:=by intro qq;refine Dw ?_;refine Go ?_;exact qq.a):p:=h ⟨k⟩
theorem ZfV(k:q)(h:Zaa q->p:=by intro qq;refine Zft ?_;refine HYSteps.cons (.q rfl (BQ rfl X (ArgsLe.cons rfl (D.le.refl _) (ArgsLe.cons rfl (D.le.refl _) ArgsLe.nil)))) ?_;exact qq.a):p:=h ⟨k⟩
theorem ZfY(h:p:=by refine Ai (s.length-(k+1)) ZbG ⟨k+1,by omega,rfl,rfl⟩ ?_;exact Ac Zcm ZcJ):p:=h
theorem Zga(h:p:=by refine ZfA ?_;exact HYSteps.nil):p:=h
theorem Zgd(k:q)(h:Zaa q->p:=by intro qq;refine HYSteps.cons (.q rfl (Ar rfl (Aa rfl) rfl (Aa rfl) rfl rfl)) ?_;refine HYSteps.cons (.q rfl (Ar rfl (Aa rfl) rfl (Aa rfl) rfl rfl)) ?_;exact qq.a):p:=h ⟨k⟩
theorem Zge(h:p:=by rw[Yab,Yac h];exact Ybm h):p:=h
theorem Zgf(h:p:=by simp[IntKind.wrap,IntKind.bits,IntKind.signed];omega):p:=h
theorem Zgg(h:p:=by refine Ai (L.length-(k+1)) ZbG ⟨k+1,by omega,rfl,rfl⟩ ?_;exact Ac Zco Zcf):p:=h
theorem Zgh(k:q)(h:Zaa q->p:=by intro qq;refine HYSteps.cons (.q rfl (Ar rfl (Aa rfl) rfl (Aa rfl) rfl rfl)) ?_;refine HYSteps.cons (.q rfl (Lv rfl rfl (Aa rfl) rfl rfl)) ?_;exact qq.a):p:=h ⟨k⟩
theorem Zgi(k:q)(h:Zaa q->p:=by intro qq;refine Zft ?_;refine HYSteps.cons (.q rfl (BQ rfl K (ArgsLe.cons rfl (D.le.refl _) (ArgsLe.cons rfl (D.le.refl _) ArgsLe.nil)))) ?_;exact qq.a):p:=h ⟨k⟩
theorem Zgj(k:q)(h:Zaa q->p:=by intro qq;refine Bk (Ky 1 0 5 1 rfl rfl ZbL ZbG rfl rfl rfl rfl) ?_;refine AU [1,2] [] [] (K) ZbC rfl rfl ZbF ZbD ZbL ZbB ZbH trivial rfl ?_;exact qq.a):p:=h ⟨k⟩
theorem Zgk(h:p:=by refine CutS.normal (EE k e&&decide (((e.a.length:Nat):Int)<=64)&&decide (∀x∈e.a,IvP x)&&decide (Wx k.n e.r),⟨e.n,e.cof,[],[],[],[],[],⟨no8,[],λ_=>[]⟩,[],e.sq,e.x,e.b⟩) ZbT ?_;exact Ac Zcg ZbJ):p:=h
theorem Zgm(k:q)(h:Zaa q->p:=by intro qq;refine Go ?_;refine AU [0,1] [] [] (q) ZbC rfl rfl ZbF ZbD ZbL ZbB ZbH trivial rfl ?_;exact qq.a):p:=h ⟨k⟩
theorem Zgn(k:q)(h:Zaa q->p:=by intro qq;refine Go ?_;refine AU [0,1] [] [] (A) ZbC rfl rfl ZbF ZbD ZbL ZbB ZbH trivial rfl ?_;exact qq.a):p:=h ⟨k⟩
theorem Zgo(k:q)(h:Zaa q->p:=by intro qq;refine HYSteps.cons (.q rfl (Ar rfl (Aa rfl) rfl (Aa rfl) rfl rfl)) ?_;refine Zft ?_;exact qq.a):p:=h ⟨k⟩
theorem Zgp(h:p:=by have A:=xO.out _ _ E.out.2.2 (by rw[BE];exact xd.out);exact⟨q-1,by go_num,by have:=A.1;rw[BE]at this;exact this,xf.out _ _ E.out.2.2 E.out.2.1 A.1 A.2,g.out.1,g.out.2.drewN _⟩):p:=h
theorem Zgq(h:p:=by refine CutS.normal (decide (((e.sq.length:Nat):Int)<=64)&&decide (∀x∈e.sq,SqP k.n x)&&JV k e,⟨e.n,[],e.g,e.o,e.c,e.q,e.s,e.r,e.a,[],e.x,e.b⟩) ZbT ?_;exact Ac Zcg ZbJ):p:=h
theorem Zgr(h:p:=by refine CutS.normal (decide (Va k.n 12 p),⟨0,[],n,d,r,o,l,s,b⟩) Zcp ?_;exact Ac Zcg ZbJ):p:=h
theorem Zgs(k:q)(h:Zaa q->p:=by intro qq;refine HYSteps.cons (.q rfl (Eq (r:=((g:Nat):Int)) rfl rfl ((DF (AR V 4) (j:=2) ZbG).trans N))) ?_;refine ZfT ?_;exact qq.a):p:=h ⟨k⟩
theorem Zgt(h:p:=by have A:=xx.out _ _ C.out.2.2 (by rw[BE];exact p.out);exact⟨q-1,by go_num,by have:=A.1;rw[BE]at this;exact this,a.out _ _ C.out.2.2 C.out.2.1 A.1 A.2,d.out.drewN _⟩):p:=h
theorem Zgu(k:q)(h:Zaa q->p:=by intro qq;refine HYSteps.cons (.q rfl (Bj rfl (Aa rfl))) ?_;refine HYSteps.cons (.n rfl (Aa rfl) rfl rfl rfl rfl rfl) ?_;exact qq.a):p:=h ⟨k⟩
theorem Zgv(h:p:=by go_wp2;exact⟨⟨q-1,r+V1,by go_num,by go_num,by have:=xd.out;omega,by have:=F.out;omega,⟨E.out.2.2,E.out.2.1⟩,g.out.1,g.out.2.drewN _⟩,by simp[intOf];omega⟩):p:=h
theorem Zgy(k:q)(h:Zaa q->p:=by intro qq;refine Go ?_;refine Wq (EP (ao rfl)) ?_;exact qq.a):p:=h ⟨k⟩
theorem Zgz(h:p:=by go_wp2;exact⟨⟨q-1,r+Q,by go_num,by go_num,by have:=p.out;omega,by have:=k.out;omega,⟨C.out.2.2,C.out.2.1⟩,d.out.drewN _⟩,by simp[intOf];omega⟩):p:=h
theorem ZgC(h:p:=by go_wp2;exact⟨⟨j+1,xc,by simp,xd.out (H.out.2 ⟨by omega,by omega,λh=>by omega⟩),p.out _ (by rw[xe.out];rfl),P.out _⟩,by simp[intOf];omega⟩):p:=h
theorem ZgF(h:p:=by have u:Hid (((r:Int)*4294967296+x)/d%4294967296=((r*4294967296+x)/d:Nat)/\((r:Int)*4294967296+x)%d=((r*4294967296+x)%d:Nat)):=A0y V O f;go_wp2;refine⟨⟨k,(r*4294967296+x)%d,_,by omega,rfl,by rw[u.out.2],YaV _ a,I.out.step C U.out.symm E.out a V f O u.out.1⟩,by simp[intOf]⟩):p:=h
theorem ZgG(h:p:=by simp only[m,resolve,invoke,builtin,Sem.run_bind,Sem.run_pure,Result.andThen_ok,YcK,Ybc,Ycj,Z,C,n];exact q _ _ h):p:=h
theorem ZgH(h:p:=by refine Go ?_;exact AA (Zb (ResV.cell rfl rfl (Aa rfl) rfl rfl rfl) (ResV.cell rfl rfl (Aa rfl) rfl rfl rfl) (ResV.tmp rfl rfl) (D.le.refl _))):p:=h
theorem ZgI(h:p:=by have heq:(Op.equalIn Op.maxDepth 112 (.agg (c8 a)) (.agg (c8 b))).run Tryz.prog w=.ok (LU a b) w:=Jb a b w;simp[eqGuard,binOp,Op.equal,heq]):p:=h
theorem ZgJ(h:p:=by have heq:(Op.equalIn Op.maxDepth 36 (.agg (c8 a)) (.agg (c8 b))).run Tryz.prog w=.ok (LU a b) w:=RC a b w;simp[eqGuard,binOp,Op.equal,heq]):p:=h
theorem ZgM(k:q)(h:Zaa q->p:=by intro qq;refine Go ?_;refine Ai (2-(k+1)) ZbG ⟨k+1,by omega,rfl,rfl⟩ ?_;exact qq.a):p:=h ⟨k⟩
theorem ZgN(h:p:=by rw[<-G]at V;exact⟨_,M,V,y,U,e4,e5,λb E q=>by cases E;exact e6 q,λb E _=>e7 b E,λb E=>by cases E;exact .inr (Yah _)⟩):p:=h
theorem ZgO(k:q)(h:Zaa q->p:=by intro qq;refine Kr ?_;refine ZfB ?_;exact qq.a):p:=h ⟨k⟩
theorem ZgP(h:p:=by rw[YaO];omega):p:=h
theorem ZgQ(k:q)(h:Zaa q->p:=by intro qq;rw[Tryz.ntmps24];refine Go ?_;refine Dy 9 ?_;refine Dw ?_;refine⟨_,HStep.q rfl (Ez 3 rfl rfl ZbG),?_⟩;exact qq.a):p:=h ⟨k⟩
theorem ZgR(h:p:=by refine Go ?_;refine ZfK ?_;refine Ai (n-(k+1)) ZbG ⟨k+1,A++[x],g,by omega,rfl,by simp[Z],H,DX O V K,rfl⟩ ?_;exact Ac ZbS ZcK):p:=h
theorem ZgS(h:p:=by rintro e J ⟨t,H,f,Y,rfl,xb,S⟩;exact⟨_,rfl,S,t,H,f,Y,rfl,by rw[AK,AK,AK,h.out.bool_eq,V.out.bool_eq,Vq]at xb;exact xb⟩):p:=h
theorem ZgT(h:p:=by refine Go ?_;exact AA (Rets.of2 (ResV.cell rfl rfl (Aa rfl) rfl rfl rfl) (ResV.tmp rfl rfl) (Co (D.le.refl _) (D.le.refl _)))):p:=h
theorem ZgU(h:p:=by refine Dq (ao rfl) ?_;exact(by repeat (first | exact AN (a.symm) | apply AH | apply PanQ.block | apply PanQ.loop):PanQ _ _) _):p:=h
theorem ZgV(h:p:=by go_ret;exact⟨by rw[SL (k:=q) ZdT Zct (λi K=>Q.out.2 i K) (by rw[h.out,j.out];exact hgt)];rfl,(Q.out.1.drewN _).drewN _⟩):p:=h
theorem ZgW(k:q)(h:Zaa q->p:=by intro qq;refine ZfN ?_;refine AU [0,1] [] [] (q) ZbC rfl rfl ZbF ZbD ZbL ZbB ZbH trivial rfl ?_;exact qq.a):p:=h ⟨k⟩
theorem ZgX(k:q)(h:Zaa q->p:=by intro qq;refine Go ?_;refine AU [0,1] [] [] (F) ZbC rfl rfl ZbF ZbD ZbL ZbB ZbH trivial rfl ?_;exact qq.a):p:=h ⟨k⟩
theorem ZgY(h:p:=by rw[Yab,Yac B,e];rfl):p:=h
theorem ZgZ(h:p:=by refine Wq (Eq (r:=((k:Nat):Int)) (ao rfl) (ao rfl) ((DF (AR V 1%((2^3:Nat):Int)) (j:=2) ZbG).trans ZbG)) ?_;exact ZfG):p:=h
theorem Zha(k:q)(h:Zaa q->p:=by intro qq;rw[Tryz.ntmps49];refine Go ?_;exact qq.a):p:=h ⟨k⟩
theorem Zhb(h:p:=by refine Dw ?_;exact Zfx):p:=h
theorem Zhc(h:p:=by refine Go ?_;exact AA (Am (ResV.tmp rfl rfl) (Ae (by rw[q])))):p:=h
theorem Zhd(k:q)(h:Zaa q->p:=by intro qq;refine Go ?_;refine Wq (EJ (ao rfl) (Aa rfl)) ?_;exact qq.a):p:=h ⟨k⟩
theorem Zhe(h:p:=by congr 1;omega):p:=h
theorem Zhf(h:p:=by rw[YcZ]at this;omega):p:=h
theorem Zhh(h:p:=by refine Xg (Ey (n:=m) (ah rfl) (ah rfl) Q V) ?_;exact Zhb):p:=h
theorem Zhi(k:q)(h:Zaa q->p:=by intro qq;refine Go ?_;refine Ai 0 ZbG ⟨r*y,2,.inr (.inr ⟨rfl,rfl,rfl⟩),rfl⟩ ?_;exact qq.a):p:=h ⟨k⟩
theorem Zhj(h:p:=by refine ZfU ?_;exact AA (Am (ResV.cell rfl rfl (Aa rfl) rfl rfl rfl) (Ae (congrArg AQ (Eu G.1 G.2))))):p:=h
theorem Zhn(h:p:=by refine Go ?_;exact AA (Am (ResV.cell rfl rfl (Aa rfl) rfl rfl rfl) (Ae (congrArg AQ (Eu e.1 e.2))))):p:=h
theorem Zhp(k:q)(h:Zaa q->p:=by intro qq;refine Zft ?_;refine HYSteps.cons (.q rfl (BQ rfl t (ArgsLe.cons rfl (D.le.refl _) (ArgsLe.cons rfl (D.le.refl _) (ArgsLe.cons rfl (D.le.refl _) (ArgsLe.cons rfl (D.le.refl _) (ArgsLe.cons rfl (D.le.refl _) ArgsLe.nil))))))) ?_;refine Zft ?_;refine HYSteps.cons (.q rfl (Bj rfl (Aa rfl))) ?_;(refine HYSteps.cons (.q rfl (Zch)) ?_);exact qq.a):p:=h ⟨k⟩
theorem Zhq(h:p:=by obtain⟨k,rfl⟩:∃k,q=k+1:=⟨q-1,by omega⟩;rw[YbX,YbG,YcB]):p:=h
theorem Zhr(h:p:=by rw[YaE];omega):p:=h
theorem Zhs(h:p:=by obtain⟨A1,n1,Z,rfl⟩:=U.form;exact⟨_,rfl,xa,_,_,_,rfl,by rw[Bo (BG _),AK]at U;exact U⟩):p:=h
theorem Zht(h:p:=by refine Go ?_;exact AA (Rets.of2 (ResV.tmp rfl rfl) (ResV.tmp rfl rfl) (Co (Ae ZdA) (Ae ZdB)))):p:=h
theorem Zhu(h:p:=by refine ZfT ?_;exact Zga):p:=h
theorem Zhv(h:p:=by refine HYSteps.cons (.q rfl (Eq (r:=((g:Nat):Int)) rfl rfl ((DF (AR V 4) (j:=2) ZbG).trans e))) ?_;exact Zhu):p:=h
theorem Zhw(h:p:=by refine HYSteps.cons (.q rfl (Eq (r:=((g:Nat):Int)) rfl rfl ((DF (AR V 4) (j:=2) ZbG).trans f))) ?_;exact Zhu):p:=h
theorem Zhx(k:q)(h:Zaa q->p:=by intro qq;refine Zft ?_;refine HYSteps.cons (.q rfl (BQ rfl J (ArgsLe.cons rfl (D.le.refl _) (ArgsLe.cons rfl (D.le.refl _) ArgsLe.nil)))) ?_;exact qq.a):p:=h ⟨k⟩
theorem Zhy(h:p:=by rw[getD_set_ne false (λe=>W e.symm)]at h;exact h):p:=h
theorem Zhz(h:p:=by rw[<-G]at V;exact⟨_,M,V,Z,e3,.inl e4,e5,λb E=>by cases E;exact .inr (Yah _)⟩):p:=h
theorem ZhA(h:p:=by have:=Lt (hp:=hp) (dd:=dd) (ty:=ty) (ps:=ps) (af:=af) (gd:=gd) (U:=U) C N;rwa [h]at this):p:=h
theorem ZhB(h:p:=by rw[Yab,Yac O];exact h _ (Ybm O)):p:=h
theorem ZhC(h:p:=by congr 2;exact Array.eq_empty_of_size_eq_zero ZbV):p:=h
theorem ZhD(h:p:=by rw[Yaf,List.take_append,l,Yeo,Yar ZbG];simp):p:=h
theorem ZhE(h:p:=by have E:i (.tmp 1)=.pointer (some ⟨w.heap.size,0,none⟩):=l 1 ZbL;exact AB Zeo rfl):p:=h
theorem ZhF(h:p:=by rw[Yaf,List.drop_append,YaL ZbG,l,Yeo];rfl):p:=h
theorem ZhG(h:p:=by have c:G (.tmp 5)=.int .i64 (k:Int):=l 5 ZbL;exact AB (by simp[execOp,c,go_sem]) rfl):p:=h
theorem ZhH(h:p:=by have xd:i (.tmp 12)=.pointer (some ⟨w.heap.size+1,1,none⟩):=C.1 _ rfl;have X:M.cell? ⟨w.heap.size+1,1,none⟩=some (.slice O E k):=Q.cellv ((((EQ _ _ ZbV).alloc _).drew.cell 1));exact AB (by simp[execOp,xd,X,go_sem]) rfl):p:=h
theorem ZhI(h:p:=by refine CutS.normal (decide (SmI n),⟨0,p,0,d,r,o,l,s,b⟩) Zcp ?_;exact Ac Zcg ZbJ):p:=h
theorem ZhJ(h:p:=by rw[YaH]at this ⊢;rwa [YaU P]):p:=h
theorem ZhK(h:p:=by rw[Yab,Yac B];exact Ybm B):p:=h
theorem ZhL(h:p:=by have P:i (.tmp 7)=.pointer (some ⟨w.heap.size+1,0,none⟩):=C.1 _ rfl;have X:M.cell? ⟨w.heap.size+1,0,none⟩=some (.bool z):=Q.cellv ((((EQ _ _ ZbV).alloc _).drew.cell 0));exact AB (by simp[execOp,P,X,go_sem]) rfl):p:=h
theorem ZhM(h:p:=by have xa:i (.tmp 10)=.pointer (some ⟨w.heap.size,1,none⟩):=C.1 _ rfl;have X:M.cell? ⟨w.heap.size,1,none⟩=some (.slice A n c):=Q.cellv (((((Blk.new _ _ _).alloc _).alloc _).drew.cell 1));exact AB (by simp[execOp,xa,X,go_sem]) rfl):p:=h
theorem ZhN(h:p:=by rw[Fe Z,FP B]at h;simp only[AS.new,AS.put,p];exact h):p:=h
theorem ZhO(h:p:=by have U:i (.tmp 8)=.bool z:=C.2.1 _ rfl;exact AB (by simp[execOp,s,U,go_sem]) rfl):p:=h
theorem ZhP(h:p:=by rw[Ycc,YaO,Ybx ZbG]at this;exact this):p:=h
theorem ZhQ(h:p:=by have Z:i (.tmp 5)=.pointer (some ⟨w.heap.size,0,none⟩):=C.1 _ rfl;have X:M.cell? ⟨w.heap.size,0,none⟩=some (.bool b):=Q.cellv (((((Blk.new _ _ _).alloc _).alloc _).drew.cell 0));exact AB (by simp[execOp,Z,X,go_sem]) rfl):p:=h
theorem ZhV(h:p:=by show(Fl L _).length<=6;simp[Fl];omega):p:=h
theorem ZhW(h:p:=by go_ret;exact⟨by rw[Ln (by rw[<-U.out,<-P.out];exact hgt)];rfl,Ext.refl _⟩):p:=h
theorem ZhX(h:p:=by obtain⟨A1,n1,Z,rfl⟩:=U.form;exact⟨_,rfl,xa,_,_,_,rfl,by skip;exact U⟩):p:=h
theorem ZhY(k:q)(h:Zaa q->p:=by intro qq;refine Kr ?_;apply AWl.nil;exact qq.a):p:=h ⟨k⟩
theorem Zia(h:p:=by refine Ab Tryz.func76 λw=>?_;rw[Tryz.ntmps76];exact Zfx):p:=h
theorem Zib(h:p:=by refine Go ?_;exact AA (Am (ResV.tmp rfl rfl) (Ae (by rw[LW];congr 3;omega)))):p:=h
theorem Zic(h:p:=by go_ret;exact⟨by rw[Lm (by rw[<-U.out,<-P.out];exact O)];rfl,Ext.refl _⟩):p:=h
theorem Zid(h:p:=by have E:i (.tmp 1)=.pointer (some ⟨R,0,none⟩):=l 1 ZbL;exact AB Zeo rfl):p:=h
theorem Zie(h:p:=by rw[Yab,Yau,Ydp B];rfl):p:=h
theorem Zif(h:p:=by refine Go ?_;refine Wq (EP (ao rfl)) ?_;refine Bd [0] [] [] (F) (BX rfl) (λN=>(by repeat (first | exact AN (N) | apply AH | apply PanQ.block | apply PanQ.loop):PanQ _ _) _) rfl rfl ZbF ZbD ZbL ZbB ZbH trivial rfl ?_;rintro _ _ ⟨x,r,q,E,rfl,rfl⟩;refine ZfN ?_;refine FinP.ret (RetsA.one rfl) rfl ?_ rfl;exact⟨x,r,q,E,rfl,rfl⟩):p:=h
theorem Zig(h:p:=by show(if s1.w.heap.size=s1.w.heap.size then i+1 else _)=i+1;rw[Yan rfl]):p:=h
theorem Zih(h:p:=by refine CutS.normal (true,⟨0,p,n,d,r,o,l,s,b⟩) Zcp ?_;exact Ac Zcg ZbJ):p:=h
theorem Zii(h:p:=by go_ret;exact⟨by rw[xh.out λh=>by have:=H.out.1 h;omega];rfl,xg.out⟩):p:=h
theorem Zij(h:p:=by rw[e];exact⟨(Ydl _ _).symm,(Ydm _ _).symm⟩):p:=h
theorem Zik(h:p:=by rw[Yce]at L;simp[execOp,V,resolve,L,Deferred.ofValue,invoke,xb]):p:=h
theorem Zil(h:p:=by refine Ai (8-(k+1)) ZbG ⟨k+1,by omega,rfl,rfl⟩ ?_;exact Ac Zck ZcG):p:=h
theorem Zim(h:p:=by refine Ai (8-(j+1)) ZbG ⟨j+1,by omega,rfl,rfl⟩ ?_;exact Ac ZcI Zeu):p:=h
theorem Zin(h:p:=by intro M i Q C l F p;have I:i (.tmp 2)=.pointer (some ⟨w.heap.size,0,none⟩):=l 2 ZbL;exact AB Zep rfl):p:=h
theorem Zio(h:p:=by intro M i Q C l F p;have K:i (.tmp 3)=.pointer (some ⟨w.heap.size+1,0,none⟩):=l 3 ZbL;exact AB ZdN rfl):p:=h
theorem Zip(h:p:=by simp only[down,E];rfl):p:=h
theorem Ziq(h:p:=by refine FinP.ret (RetsA.one rfl) rfl ?_ rfl;exact⟨_,_,M,A,rfl,rfl⟩):p:=h
theorem Zir(h:p:=by refine ZfU ?_;exact AA (Am (ResV.tmp rfl rfl) (Ae (by rw[heq,q,e])))):p:=h
theorem Zis(h:p:=by rw[YaH,Ydg ZiB];simp):p:=h
theorem Zit(h:p:=by have:(r+1)*4294967296<=d*4294967296:=YaC _ V;omega):p:=h
theorem Ziu(h:p:=by go_ret;exact⟨by rw[u.out];rfl,(G.out.2.2.2.2.drewN _).drewN _⟩):p:=h
theorem Ziv(k:q)(h:Zaa q->p:=by intro qq;refine Go ?_;refine AU [0,1] [] [] ((by rw[S]at F;exact F)) ZbC rfl rfl ZbF ZbD ZbL ZbB ZbH trivial rfl ?_;exact qq.a):p:=h ⟨k⟩
theorem Zix(h:p:=by rintro _ _ ⟨rfl,rfl⟩;refine ZfN ?_;refine Ai (8-(k+1)) ZbG ⟨k+1,by omega,rfl,rfl⟩ ?_;exact Ac Zck Zcq):p:=h
theorem Ziy(h:p:=by refine AU [0,1] [] [] (F) ZbC rfl rfl ZbF ZbD ZbL ZbB ZbH trivial rfl ?_;exact Zix):p:=h
theorem Ziz(h:p:=by refine ZfH ?_;exact Zfx):p:=h
theorem ZiA(h:p:=by go_wp2;exact⟨⟨k,_,_,by omega,rfl,xm.out⟩,by simp[intOf]⟩):p:=h
theorem ZiB(h:p:=by simp;omega):p:=h
theorem ZiC(h:p:=by rw[<-YbG];exact Zhe):p:=h
theorem ZiE(h:p:=by rw[X.out]at this;exact this):p:=h
theorem ZiG(h:p:=by refine Ab Tryz.func170 λw=>?_;rw[Tryz.ntmps170];exact Zfx):p:=h
theorem ZiH(h:p:=by refine CutS.normal () (by simp[Xs,eq3,A,B]) ?_;exact Ac ZcV Zda):p:=h
theorem ZiI(h:p:=by have e7:S (.tmp 7)=.int .i64 (k:Int):=l 7 ZbL;exact AB ZeR rfl):p:=h
theorem ZiJ(h:p:=by have e6:S (.tmp 6)=.int .i64 (k:Int):=l 6 ZbL;exact AB ZeQ rfl):p:=h
theorem ZiK(h:p:=by have e8:S (.tmp 8)=.int .i64 (j:Int):=l 8 ZbL;exact AB ZeS rfl):p:=h
theorem ZiL(h:p:=by have W:A (.tmp 5)=.int .i64 (k:Int):=l 5 ZbL;exact AB ZeU rfl):p:=h
theorem ZiM(h:p:=by rw[show((k:Nat):Int).toNat=k from rfl,F.eq]at this;exact this):p:=h
theorem ZiN(h:p:=by refine Go ?_;exact AA (Am (ResV.tmp rfl rfl) (Ae (by rw[Z])))):p:=h
theorem ZiO(h:p:=by refine Go ?_;exact AA (Am (ResV.tmp rfl rfl) (Ae (by rw[a])))):p:=h
theorem ZiP(h:p:=by refine Go ?_;exact AA (Am (ResV.tmp rfl rfl) (Ae (by rw[m])))):p:=h
theorem ZiQ(h:p:=by rw[Gn];refine Ab Tryz.func24 λw=>?_;refine ZgQ ?_;refine Dw ?_;exact ZfG):p:=h
theorem ZiR(h:p:=by simp only[Yay];omega):p:=h
theorem ZiS(h:p:=by rw[<-YcZ];exact YaX J (Yah n)):p:=h
theorem ZiT(h:p:=by rw[Yct,Ybi];exact YcF m BB):p:=h
theorem ZiU(h:p:=by rw [YbJ O.out,BL];exact Words.nil _ _ _ ZbG):p:=h
theorem ZiV(h:p:=by have:(k+1)*g<=len*g:=YaC g B;exact Zhf):p:=h
theorem ZiW(h:p:=by simp only[CK.q.injEq]at this;exact Prod.ext Z this.symm):p:=h
theorem ZiX(h:p:=by rw[Kf 9998 a b W (List.range 8) ZbV]at this;exact this):p:=h
theorem ZiY(h:p:=by refine Go ?_;exact AA (Am (ResV.tmp rfl rfl) (Ae Zey))):p:=h
theorem ZiZ(h:p:=by rw[Yan (by simp[Region.wanted,ck.gd])];exact .inl h):p:=h
theorem Zja(h:p:=by simp only[Yam,YdX]at E;have F:M.length=g:=Yao E.1;rw[m _ _ h,Iw ZbG]):p:=h
theorem Zjb(h:p:=by go_ret;exact⟨by rw[K.out];rfl,Q.out.trans L.out⟩):p:=h
theorem Zjc(h:p:=by rw[C]at this;exact this):p:=h
theorem Zjd(h:p:=by simp only[maxLen];omega):p:=h
theorem Zje(h:p:=by refine HpLe.cons (OwLe.cells ZcO) ?_;exact HpLe.nil):p:=h
theorem Zjf(h:p:=by rw[xa.size];exact(Yae.1 r).1):p:=h
theorem Zjg(h:p:=by rw[List.set_eq_take_append_cons_drop,Yan O];rfl):p:=h
theorem Zjh(h:p:=by refine Go ?_;exact AA (Am (ResV.tmp rfl rfl) (AM))):p:=h
theorem Zji(h:p:=by rw[E]at h;cases h):p:=h
theorem Zjj(h:p:=by rw[YbG,<-YbT]at this;exact this):p:=h
theorem Zjk(h:p:=by rw[show i+(j+1)=i+1+j by omega]at this;exact this):p:=h
theorem Zjm(h:p:=by have:=CI (c:=n) I.out.2.2.1 I.out.2.1 ZdL ZbG;rw[I.out.1]at this;exact this):p:=h
theorem Zjn(k:q)(h:Zaa q->p:=by intro qq;refine⟨J,by rw[u.out.2];rfl,?_,I.out.2.2.2.2.trans Q⟩;rw[Bo I.out.2.1,<-u.out.1]at m;exact qq.a):p:=h ⟨k⟩
theorem Zjo(h:p:=by have:=h.how;cases this):p:=h
theorem Zjp(h:p:=by refine Dw ?_;exact ZfC):p:=h
theorem Zjr(h:p:=by refine ZfH ?_;refine Go ?_;refine Ai (8-(k+1)) ZbG ⟨k+1,by omega,rfl,C,rfl⟩ ?_;exact Ac Zck ZcG):p:=h
theorem Zjs(h:p:=by refine Go ?_;refine CutS.normal (EE k e,⟨e.n,e.cof,[],[],[],[],[],e.r,e.a,e.sq,e.x,e.b⟩) ZbT ?_;exact Ac Zcg ZbJ):p:=h
theorem Zjt(h:p:=by refine Go ?_;exact ZfY):p:=h
theorem Zju(h:p:=by simp[YaU this]):p:=h
theorem Zjv(h:p:=by exact .inl (opStep_wp xm.2 (eval_operands H xa r E xg xf) (xu hw) λv w2 ⟨S,xy⟩=>xJ v w2 _ rfl S xy)):p:=h
theorem Zjw(h:p:=by exact⟨n,Yah _,rfl,by rw[m.out,YaT];rfl⟩):p:=h
theorem Zjx(h:p:=by exact ((((Ext.refl _).alloc _).trans Q).set (Yah _) _).set (Yah _) _):p:=h
theorem Zjy(h:p:=by exact ((((Ext.refl _).alloc _).trans P.out).set (Yah _) _).set (Yah _) _):p:=h
theorem Zjz(h:p:=by simpa using q):p:=h
theorem ZjA(h:p:=by exact .cons (Stab.eq _) (.cons (Stab.eq _) (.cons (Stab.eq _) (.cons (Stab.eq _) (.cons (Stab.eq _) (.cons (Stab.eq _) (.cons (Stab.eq _) (.cons (Stab.eq _) (.cons (Stab.eq _) (.cons (λ_ _ _ a h=>h.ext a) (.cons (λ_ _ _ a ⟨b,A,n,c,q,B⟩=>⟨b,A,n,c,q,B.ext a⟩) .nil))))))))))):p:=h
theorem ZjB(h:p:=by exact ((((((Ext.refl _).alloc _).alloc _).alloc _).drew.trans Q.out).set ZcR _).set ZcR _):p:=h
theorem ZjC(h:p:=by simp[eqGuard,binOp,Op.intArith,e]):p:=h
theorem ZjD(h:p:=by simp[execOp,Q,F,M,Instr.indexAt,Instr.sureAddr,asIntOf,run_underlying L.und,G,J,E.run_size,Addr.add_lit]):p:=h
theorem ZjE(h:p:=by exact ⟨undef,λh=>absurd h W⟩):p:=h
theorem ZjF(h:p:=by exact⟨_,K,g,⟨j,A,p⟩,.pass (x:=.inLoop c) rfl (λ_ _=>.inl ZbV) r⟩):p:=h
theorem ZjG(h:p:=by exact setRow_other s.w g b _ (λe=>E e)):p:=h
theorem ZjH(h:p:=by exact ⟨_,rfl,.inr ⟨rfl,by omega⟩⟩):p:=h
theorem ZjI(h:p:=by exact ⟨O.df,v,q,v,rfl,F,rfl,O.le.le λ_ h=>h,A⟩):p:=h
theorem ZjJ(h:p:=by exact .inr ⟨j,by omega,h3⟩):p:=h
theorem ZjK(h:p:=by exact⟨0,by omega,rfl,rfl,(Ext.refl _).alloc _⟩):p:=h
theorem ZjL(h:p:=by decide +kernel):p:=h
theorem ZjM(h:p:=by rw[Yai ZbG,Yai ZbG]):p:=h
theorem ZjN(h:p:=by exact⟨by omega,λ_=>by omega⟩):p:=h
theorem ZjO(h:p:=by simpa using this):p:=h
theorem ZjP(h:p:=by rwa [YaO,Ybx ZbG]at this):p:=h
theorem ZjQ(h:p:=by exact⟨x,by simp[s],p.out.1.trans S.out.symm,p.out.2.1,p.out.2.2.1,p.out.2.2.2.1,by rw[S.out];exact B.out⟩):p:=h
theorem ZjR(h:p:=by rw[Yaf,<-Ydj,Ycc,Ycc]):p:=h
theorem ZjS(h:p:=by rw[h,YaN q,Ydu,YaS V]):p:=h
theorem ZjT(h:p:=by exact ((((((((Ext.refl _).alloc _).alloc _).alloc _).alloc _).trans r.out |>.set ZcR _).set ZcR _).set ZcR _).set ZcR _):p:=h
theorem ZjU(h:p:=by simp[Bv,Yab,Yac h]):p:=h
theorem ZjV(h:p:=by exact Yag ((YaJ J).symm.trans l)):p:=h
theorem ZjW(h:p:=by exact Yag ((YaJ J).symm.trans b)):p:=h
theorem ZjX(h:p:=by exact Yag h):p:=h
theorem ZjY(h:p:=by exact Ac Zcn Zcf):p:=h
theorem ZjZ(h:p:=by exact k.run a w ⟨s,_,c,this⟩):p:=h
theorem Zka(h:p:=by exact AA (Am (ResV.cell rfl rfl (Aa rfl) rfl rfl rfl) (D.le.refl _))):p:=h
theorem Zkb(h:p:=by exact .inl ⟨Ybj h,h⟩):p:=h
theorem Zkc(h:p:=by exact .inr (.inl ⟨by rw[h];rfl,h⟩)):p:=h
theorem Zkd(h:p:=by exact .inr (.inr ⟨Ybq h,h⟩)):p:=h
theorem Zke(h:p:=by simp[Bv,Yab,Yac B]):p:=h
theorem Zkf(h:p:=by exact AA (Am (ResV.tmp rfl rfl) (Ae (by congr 2;omega)))):p:=h
theorem Zkg(h:p:=by exact ⟨V.df,v,q,.inl ⟨v,rfl,G,l,r,_,u,rfl,xe,U⟩⟩):p:=h
theorem Zkh(h:p:=by rw[heq,GQ O,(YaL ZbG:Q.drop k=[]),CW]):p:=h
theorem Zki(h:p:=by rw[heq,G,(YaL ZbG:Q.drop k=[]),CW]):p:=h
theorem Zkj(h:p:=by exact Ac (by exact Yd<|Yd<|Yd<|Yd<|Yd<|FrLe.nil) Zcf):p:=h
theorem Zkk(h:p:=by exact(show a'.eval (.const v)=v from rfl)):p:=h
theorem Zkl(h:p:=by exact(show a'.eval (.func f)=_ from rfl)):p:=h
theorem Zkm(h:p:=by rwa [show j+1+i=j+(i+1)by omega]at this):p:=h
theorem Zkn(h:p:=by exact NL (L:=L) (rs:=s) (i:=i+1) Zdo q Zfl (λj C=>by rw[Yai ZbG];exact R j C) Y (xk b T _ e5) xi xf xd):p:=h
theorem Zko(h:p:=by exact YbK _ _):p:=h
theorem Zkp(h:p:=by exact⟨rfl,by simp only[CG,Yaf];rfl⟩):p:=h
theorem Zkq(h:p:=by rw[Bt,Yaa]):p:=h
theorem Zkr(h:p:=by exact Ac ZbW ZcL):p:=h
theorem Zks(h:p:=by exact⟨by simpa[AV.below,Ybh]using B,V.2⟩):p:=h
theorem Zkt(h:p:=by exact Ac ZbS Zcl):p:=h
theorem Zku(h:p:=by exact Ac Zci ZbP):p:=h
theorem Zkv(h:p:=by exact .inr ⟨g,cap,cur,e1,e2,(E g (by rw[e1];rfl)).1.trans e3,e4⟩):p:=h
theorem Zkw(h:p:=by exact xK k' A (by rwa [Ycr]at xh)):p:=h
theorem Zkx(h:p:=by exact Ac (by exact Yp<|Yp<|Yp<|Yd<|Yd<|FrLe.nil) Zdw):p:=h
theorem Zky(h:p:=by exact Ac Zce (by(refine HpLe.cons (OwLe.row (by rw[C];simp)) ?_);exact HpLe.cons (Ak rfl)<|HpLe.cons (Ad rfl)<|HpLe.nil)):p:=h
theorem Zkz(h:p:=by exact Ac Zcg ZbJ):p:=h
theorem ZkA(h:p:=by exact AA (Am (ResV.tmp rfl rfl) (Ae (congrArg (λz=>ex (.bool z)) ZeO)))):p:=h
theorem ZkB(h:p:=by exact ClOk.mk' [] [] rfl rfl ⟨by dsimp only;omega,PB.nil,by dsimp only;omega,by dsimp only;omega,.inl ZbZ,λ_=>rfl,by simp,by simp,by simp⟩):p:=h
theorem ZkC(h:p:=by exact Ybm _):p:=h
theorem ZkD(h:p:=by exact Ac Zcs Zcu):p:=h
end
end Go.Proofs
namespace Go.Proofs.YtcikkglcoeedlaaGreat
open _root_.Go.Proofs.Tryz
variable{vj:Act}{vM:Array Bool}{vZ:Array Oper}{vE:Array Value}{o:Bool}{vR:Exit->Act->World->Prop}{a j:Int}{l h vo:List Nat}{n b T m:Nat}{va:Oper}{uy:Operand->Value}{ut:Option Addr}{P:Program}{t:TypeId}{z u:Value}{w p:World}
section
open Go.RowKit
def Ext(w M:World):Prop:=Below w.heap.size w M
theorem Ext.refl(w:World):Ext w w:=Below.refl _ _
theorem Ext.trans{a b c:World}(h:Ext a b)(k:Ext b c):Ext a c:=Below.trans h (Below.mono k h.size)
theorem Ext.drew{a b:World}(h:Ext a b):Ext a b.drew:=Below.drew h
theorem Ext.drewN(h:Ext w p)(n:Nat):Ext w (p.drewN n):=by
 obtain⟨q,A,K,Y,B⟩:=h;exact⟨q,A,K,Y,B⟩
theorem Ext.size{a b:World}(h:Ext a b):a.heap.size<=b.heap.size:=Below.size h
theorem Ext.block{a b:World}(h:Ext a b){k:Nat}(B:k<a.heap.size):b.heap[k]? = a.heap[k]?:=Below.block h k B
theorem Ext.cell{a b:World}(h:Ext a b){p:Addr}(G:p.block<a.heap.size):b.cell? p=a.cell? p:=Below.cell h G
theorem Ext.frozen{a b:World}(h:Ext a b){p:Addr}(G:p.block<a.heap.size):b.frozen? p=a.frozen? p:=Below.frozen h G
theorem Ext.cellv{a b:World}(h:Ext a b){p:Addr}{v:Value}(r:a.cell? p=some v):b.cell? p=some v:=(h.cell (World.block_lt_of_cell? a p r)).trans r
theorem Ext.alloc{a b:World}(h:Ext a b)(o:Obj):Ext a (b.alloc o):=Below.alloc h h.size o
theorem Af{p:Prop}(h:p):Hid p:=h
def OpStep(P:Program)(o:Oper)(ev:Operand->Value)(w:World)(R:Value->World->Prop):Prop:=
 match (execOp ev o).run P w with
 |.ok (.value v) M=>R v M
 |.ok .skip M=>R undef M
 |.ok (.enter f args) M=>Calls P f args M λe N=>∃v,e=.returned v/\R v N
 |_=>False
structure Shape where
 env:List (Nat×Nat)
 bef:List Nat
 deps:List Nat
def upd(g:Nat->Value)(i:Nat)(v:Value):Nat->Value:=λk=>if k=i then v else g k
def UY(i:Operand->Value)(g:Nat->Value):List (Nat×Nat)->Prop
 |[]=>True
 |(t,j)::r=>i (.tmp t)=g j/\UY i g r
def Fo(o:Oper)(g:Nat->Value):Bool:=
 match o.guard with
 |none=>true
 |some (j,b)=>match g j with |.bool c=>c==b |_=>false
abbrev Fact:=List Value->World->Prop
def Known(X:List Shape)(h:List Fact)(i:Nat)(g:Nat->Value)(w:World):Prop:=
 ∀x,X[i]? = some x->∀j∈x.bef,∀y F,X[j]? = some y->h[j]? = some F->F (y.deps.map g) w
def StepAt(P:Program)(X:List Shape)(h:List Fact)(a:Act)(W:World)(i:Nat)(o:Oper)(x:Shape)(F:Fact):Prop:=
 ∀(g:Nat->Value) (w:World) (q:Operand->Value),Ext W w->Known X h i g w->UY q g x.env ->
  (∀t,(∀p∈x.env,p.1≠t)->q (.tmp t)=a.tmps.getD t undef)->(∀v,q (.const v)=v)->(∀f,q (.func f)=.func (.func f) #[] #[]) ->
  (Fo o g=true->OpStep P o q w λv M=>Ext w M/\F (x.deps.map (upd g i v)) M)/\(Fo o g=false->F (x.deps.map (upd g i undef)) w)
def StepsAt(P:Program)(X:List Shape)(h:List Fact)(a:Act)(W:World):Nat->List Oper->List Shape->List Fact->Prop
 |i,o::L,x::S,F::T=>StepAt P X h a W i o x F/\StepsAt P X h a W (i+1) L S T
 |_,_,[],[]=>True
 |_,_,_,_=>False
theorem StepsAt.at{P:Program}{X:List Shape}{B:List Fact}{a:Act}{W:World}:∀{S:List Shape} {T:List Fact} {L:List Oper} {i:Nat},StepsAt P X B a W i L S T ->
  S.length=T.length/\∀k o x,L[k]? = some o->S[k]? = some x->∃F,T[k]? = some F/\StepAt P X B a W (i+k) o x F
 |[],[],L,i,_=>⟨rfl,λk o x _ C=>by simp at C⟩
 |[],_::_,L,i,h=>by cases L<;>exact h.elim
 |_::_,[],L,i,h=>by cases L<;>exact h.elim
 |x::S,F::T,[],i,h=>h.elim
 |x::S,F::T,o::L,i,h=>Zab
def Bz(o:Oper):List Nat:=(o.after.toList.filter λe=>Region.binds .any e).map (·.on)
def Dt(X:List Shape)(j:Nat):List Nat:=(X[j]?.map (·.bef)).getD []
def BO:Op->Bool
 |.select ..=>false
 |_=>true
def Fm(L:List Oper)(X:List Shape)(i:Nat)(o:Oper)(x:Shape):Bool:=
 x.bef.all (λj=>(Bz o).any λe=>e==j||(Dt X e).contains j) &&
 x.deps.all (λk=>k==i||x.bef.contains k) &&
 x.env.all (λp=>x.bef.contains p.2&&decide (p.2<X.length)&&(match L[p.2]? with | some q=>q.dst==some p.1 | none=>false)) &&
 o.op.operands.toList.all (fun | .tmp t=>(x.env.map (·.1)).contains t||((List.range X.length).all λj=>match L[j]? with | some q=>q.dst != some t||j==i||(Dt X j).contains i | none=>true) | _=>true) &&
 (match o.guard with | some (j,_)=>x.bef.contains j&&decide (j<X.length)&&(match L[j]? with | some q=>q.dst.isSome | none=>false) | none=>true) &&
 BO o.op
def A4H(L:List Oper)(X:List Shape)(t:Nat)(o:Oper):Bool:=
 (List.range t).all λj=>(Bz o).any λe=>e==j||(if e<X.length then(Dt X e).contains j else decide (j<e))
def Eg(L:List Oper)(X:List Shape):Bool:=
 decide (X.length<=L.length) &&
 L.zipIdx.all (λ(o,i)=>(Bz o).all (λe=>decide (e<i)) &&
  (match X[i]? with | some x=>Fm L X i o x | none=>A4H L X i o)) &&
 (List.range X.length).all (λi=>(List.range X.length).all λj=>i==j||(match L[i]?,L[j]? with | some o,some t=>o.dst.isNone||o.dst != t.dst | _,_=>true))
def HI(L:List Oper)(n s:Nat):Bool:=(L.take n).all λo=>match o.dst with | some d=>decide (d<s) | none=>true
def Fw(g:Nat->Value):List Oper->Nat->Act->Act
 |[],_,a=>a
 |o::r,i,a=>Fw g r (i+1) (a.put o.dst (g i))
section
variable {P:Program} {L:List Oper} {sh:List Shape} {Rs:List Fact} {a:Act} {w0:World}
theorem DH(h:Eg L sh=true):sh.length<=L.length:=by
 simp only[Eg,Yam,Yba]at h;exact h.1.1
theorem CN(h:Eg L sh=true){i:Nat}(m:L[i]? = some va) :
  (∀e∈Bz va,e<i)/\(∀x,sh[i]? = some x->Fm L sh i va x=true)/\(sh[i]? = none->A4H L sh i va=true):=by
 simp only[Eg,Yam]at h
 have A:=Yaj.1 h.1.2 (va,i) (by
  rw[YbN];exact m)
 simp only[Yam,Yaj,Yba]at A;refine⟨A.1,λx C=>?_,λC=>?_⟩
 .have:=A.2;exact Zjc
 .have:=A.2;exact Zjc
theorem Gs(h:Eg L sh=true){i j:Nat}{o t:Oper}(J:i<sh.length)(W:j<sh.length)(m:L[i]? = some o)(I:L[j]? = some t)(e:o.dst=some T)(f:t.dst=some T):i=j:=by
 simp only[Eg,Yam]at h;have A:=Yaj.1 (Yaj.1 h.2 i (Ybd.2 J)) j (Ybd.2 W);rw[m,I]at A;simp[e,f]at A;exact A
theorem LO{e:Edge}(q:e∈va.after)(E:Region.binds .any e=true):e.on∈Bz va:=by
 unfold Bz;exact YaA.2 ⟨e,YdY.2 ⟨by simpa using q,E⟩,rfl⟩
theorem JS(h:n∈Bz va):∃e∈va.after,Region.binds .any e=true/\e.on=n:=by
 unfold Bz at h;obtain⟨e,B,rfl⟩:=YaA.1 h;obtain⟨q,A⟩:=YdY.1 B;exact⟨e,by simpa using q,A,rfl⟩
structure HInv(L:List Oper)(sh:List Shape)(Rs:List Fact)(a:Act)(w0:World)(listed:Array Bool)(g:Nat->Value)(a':Act)(w':World):Prop where
 size:listed.size=L.length
 closed:∀j o,L[j]? = some o->listed.getD j false=true->∀e∈Bz o,listed.getD e false=true
 tail:∀t,sh.length<=t->listed.getD t false=false
 asz:a'.tmps.size=a.tmps.size
 adef:a'.defers=a.defers
 a1:∀j o d,j<sh.length->L[j]? = some o->listed.getD j false=true->o.dst=some d->a'.tmps[d]? = some (g j)
 a2:∀t,(∀j o,j<sh.length->L[j]? = some o->listed.getD j false=true->o.dst≠some t)->a'.tmps[t]? = a.tmps[t]?
 facts:∀j y F,sh[j]? = some y->Rs[j]? = some F->listed.getD j false=true->F (y.deps.map g) w'
 ext:Ext w0 w'
variable{us:Shape}
theorem EM(h:sh[n]? = some us):n<sh.length:=(Yae.1 h).1
theorem Eo(E:Eg L sh=true)(F:∀j o,L[j]? = some o->vM.getD j false=true->∀e∈Bz o,vM.getD e false=true) :
  ∀(i:Nat) (x:Shape) (o:Oper),sh[i]? = some x->L[i]? = some o->(∀e∈Bz o,vM.getD e false=true)->∀j∈x.bef,vM.getD j false=true:=by
 intro i
 induction i using Nat.strongRecOn with
 |_ i v=>
  intro x o C m G j W;obtain⟨O,s,_⟩:=CN E m;have q:=s x C;simp only[Fm,Yam]at q;have A:=Yaj.1 q.1.1.1.1.1 j W;obtain⟨e,B,I⟩:=YbI.1 A;have k:=G e B;simp only[YaZ,Ycw]at I;rcases I with rfl | I
  .exact k
  .have n:=O e B
   cases N:sh[e]? with
   |none=>simp[Dt,N]at I
   |some y=>
    have J:e<L.length:=Yaq (EM N) (DH E);have S:L[e]? = some L[e]:=Yac J;refine v e n y _ N S (F e _ S k) j ?_;simpa[Dt,N]using I
noncomputable def Qu (a:Act) (g:Nat->Value) (env:List (Nat×Nat)):Operand->Value
 |.tmp t=>match env.find? (λp=>p.1==t)with
  |some p=>g p.2
  |none=>a.tmps.getD t undef
 |.const v=>v
 |.global b=>.pointer (some ⟨b,0,none⟩)
 |.func f=>.func (.func f) #[] #[]
theorem HH(B:Eg L sh=true){i:Nat}(C:sh[i]? = some us)(m:L[i]? = some va){p:Nat×Nat}(G:p∈us.env) :
  p.2∈us.bef/\p.2<sh.length/\∃t,L[p.2]? = some t/\t.dst=some p.1:=by
 have q:=(CN B m).2.1 us C;simp only[Fm,Yam]at q;have A:=Yaj.1 q.1.1.1.2 p G;simp only[Yam,Yba]at A;obtain⟨⟨K,Y⟩,n⟩:=A;refine⟨by simpa using K,Y,?_⟩;split at n
 .rename_i t I;exact⟨t,I,by simpa using n⟩
 .cases n
theorem SF{i:Operand->Value}{g:Nat->Value}:∀{env:List (Nat×Nat)},(∀p∈env,i (.tmp p.1)=g p.2)->UY i g env
 |[],_=>trivial
 |(t,j)::r,h=>⟨h (t,j) ZbV,SF λp G=>h p (by simp[G])⟩
theorem step_inv(S:Eg L sh=true)(M:HI L sh.length a.tmps.size=true)
  (xb:∀F∈Rs,∀V Y c,Ext Y c->F V Y->F V c)
 {g:Nat->Value} (X:HInv L sh Rs a w0 vM g vj w) {i:Nat} {F:Fact} (m:L[i]? = some va) (C:sh[i]? = some us) (hF:Rs[i]? = some F)
  (v:vM.getD i false=false) (r:∀e∈Bz va,vM.getD e false=true) (K:Ext w p) (O:F (us.deps.map (upd g i z)) p) :
  HInv L sh Rs a w0 (vM.setIfInBounds i true) (upd g i z) (vj.put va.dst z) p:=by
 have xa:i<sh.length:=EM C;have R:i<vM.size:=by rw[X.size];exact(Yae.1 m).1
 have U:∀j,(vM.setIfInBounds i true).getD j false=true->j≠i->vM.getD j false=true:=λj h W=>by
  exact Zhy
 have xg:∀j y o,sh[j]? = some y->L[j]? = some o->vM.getD j false=true->i∉y.bef:=λj y o N n I J=>by
  have:=Eo S X.closed j y o N n (X.closed j o n I) i J;rw[v]at this;cases this
 refine⟨by simp[X.size],λj o n I e H=>?_,λt E=>?_,?_,?_,λj o d W n I T=>?_,λt E=>?_,λj y G N u I=>?_,X.ext.trans K⟩
 .by_cases s:j=i
  .subst s
   have:o=va:=Yag (n.symm.trans m);subst this;exact getD_set_true (r e H)
  .exact getD_set_true (X.closed j o n (U j I s) e H)
 .rw [getD_set_ne false ZbG];exact X.tail t E
 .unfold Act.put;split<;>simp[X.asz]
 .unfold Act.put;split<;>simp[X.adef]
 .by_cases s:j=i
  .subst s
   have:o=va:=Yag (n.symm.trans m);subst this
   have xd:d<vj.tmps.size:=by
    rw[X.asz];have A:=Yaj.1 M o (YaB (i:=j) (by rw[YaK];simp[xa,n]));simp only[T,Yba]at A;exact A
   simp[Act.put,T,upd,xd]
  .have xc:=U j I s
   have Z:va.dst≠some d:=λe=>s (Gs S W xa n m T e);rw[show upd g i z j=g j by simp[upd,s],<-X.a1 j o d W n xc T];unfold Act.put;split
   .rename_i l f
    have:l≠d:=λe=>Z ZeI;simp[YaU this]
   .rfl
 .have A:va.dst≠some t:=by
   refine E i va xa m ?_;simp[R]
  rw[<-X.a2 t λj o W n I=>E j o W n (getD_set_true I)];unfold Act.put;split
  .rename_i l f
   have:l≠t:=λe=>A ZeI;simp[YaU this]
  .rfl
 .by_cases s:j=i
  .subst s
   have b:y=us:=Yag (N.symm.trans C);have Q:G=F:=Yag (u.symm.trans hF);subst b;subst Q;exact O
  .have xc:=U j I s
   have x:j<L.length:=Yaq (EM N) (DH S);have n:L[j]? = some L[j]:=Yac x;have xh:=xg j y _ N n xc
   have xe:y.deps.map (upd g i z)=y.deps.map g:=by
    refine YaY λk B=>?_;have q:=(CN S n).2.1 y N;simp only[Fm,Yam]at q;have A:=Yaj.1 q.1.1.1.1.2 k B;simp only[YaZ,Ycw]at A
    have xf:k≠i:=by
     rintro rfl;rcases A with A | A
     .exact s A.symm
     .exact xh ZdI
    simp[upd,xf]
   rw[xe];exact xb G (YaB u) _ _ _ K (X.facts j y G N u xc)
theorem eval_operands(E:Eg L sh=true){g:Nat->Value}(O:HInv L sh Rs a w0 vM g vj w)(m:L[n]? = some va)(C:sh[n]? = some us)
  (S:vM.getD n false=false) (Q:∀e∈Bz va,vM.getD e false=true):∀y∈va.op.operands,vj.eval y=Qu a g us.env y:=Zac
theorem wanted_of(E:Eg L sh=true){g:Nat->Value}(O:HInv L sh Rs a w0 vM g vj w)(m:L[n]? = some va)(C:sh[n]? = some us)
  (G:∀e∈Bz va,vM.getD e false=true):Region.wanted va (yielded L.toArray vj.tmps)=Fo va g:=Zad
theorem opStep_wp{R:Value->World->Prop}{K:Act->World->Prop}(F:BO va.op=true)(x:∀y∈va.op.operands,vj.eval y=uy y)
  (h:OpStep P va uy w R) (C:∀v N,R v N->K (vj.put va.dst v) N):va.wp P vj w K vR:=by
 unfold Oper.wp
 have Z:∀A b,va.op≠.select A b:=by
  intro A b e;rw[e]at F;cases F
 rw[execOp_congr va Z x];unfold OpStep at h;split at h
 .rename_i v N V;rw[V];exact C _ _ h
 .rename_i N V;rw[V];exact C _ _ h
 .rename_i f args N V
  rw[V];exact Calls.mono h λe E ⟨v,q,B⟩=>by subst q;exact C _ _ B
 .exact h.elim
theorem La(h:n<vM.size):vM.getD n true=vM.getD n false:=by simp[h]
theorem Nl(C:Eg L sh=true)(t:vM.size=L.length){i:Nat}(J:i∈Region.ready .any L.toArray vM) :
  vM.getD i false=false/\∃o,L[i]? = some o/\∀e∈Bz o,vM.getD e false=true:=by
 obtain⟨q,o,m,x⟩:=mem_ready.1 J;have I:L[i]? = some o:=by simpa using m
 have s:i<vM.size:=by rw[t];exact(Yae.1 I).1
 refine⟨by rw[<-La s];exact q,o,I,λe A=>?_⟩;obtain⟨B,H,E,rfl⟩:=JS A;exact x B H E
theorem Lc(C:Eg L sh=true)(t:vM.size=L.length):∀(i:Nat),i<L.length->vM.getD i false=false->∃k,k<=i/\k∈Region.ready .any L.toArray vM:=by
 intro i
 induction i using Nat.strongRecOn with
 |_ i v=>
  intro J I;by_cases h:∃e,e<i/\vM.getD e false=false
  .obtain ⟨e,q,S⟩:=h
   obtain⟨k,B,V⟩:=v e q ZbG S;exact⟨k,by omega,V⟩
  .refine ⟨i, Yah _, mem_ready.2 ⟨by rw [La ZbG]; exact I, L[i], by simp [J], λe q E=>?_⟩⟩
   have O:=(CN C (Yac J)).1 e.on (LO q E)
   cases T:vM.getD e.on false with
   |true=>rfl
   |false=>exact absurd ⟨e.on,O,T⟩ h
def Jy(U:Array Bool):Nat:=(U.toList.filter (!·)).length
theorem MN{i:Nat}(J:i<vM.size)(h:vM.getD i false=false):Jy (vM.setIfInBounds i true)+1=Jy vM:=by
 obtain⟨l⟩:=vM;simp only[Jy,YaW,Ydd]at *
 have V:l[i]? = some false:=by
  simp[J]at h;simp[Yac J,h]
 clear h
 induction l generalizing i with
 |nil=>simp at J
 |cons b l v=>
  cases i with
  |zero=>
   simp at V;subst V;simp
  |succ i=>
   simp only[Ybw];have:=v (i:=i) (by simpa using J) (by simpa using V);cases b<;>simp_all
theorem Sz(J:n<vM.size)(h:vM.getD n false=false):0<Jy vM:=by
 have:=MN J h;omega
theorem KH(E:Eg L sh=true)(t:vM.size=L.length)(F:∀j va,L[j]? = some va->vM.getD j false=true->∀e∈Bz va,vM.getD e false=true)
 (B:sh.length<=n) (m:L[n]? = some va) (G:∀e∈Bz va,vM.getD e false=true):∀j,j<n->vM.getD j false=true:=by
 induction n using Nat.strongRecOn generalizing va with
 |_ n v=>
  intro j W;obtain⟨O,_,J⟩:=CN E m;have q:=J (YcN.2 B);have A:=Yaj.1 q j (Ybd.2 W);obtain⟨e,C,i⟩:=YbI.1 A;simp only[YaZ,Ycw]at i;rcases i with rfl | i
  .exact G e C
  .have Z:=O e C
   have k:e<L.length:=by have:=(Yae.1 m).1;omega
   have S:L[e]? = some L[e]:=Yac k;split at i
   .rename_i I
    have N:sh[e]? = some sh[e]:=Yac I;exact Eo E F e _ _ N S (F e _ S (G e C)) j (by simpa[Dt,N]using i)
   .rename_i I
    exact v e Z ZbG S (F e _ S (G e C)) j (by simpa using i)
theorem Ni(K:Eg L sh=true):∀(f m:Nat) (U:Array Bool) (N:Act) (M:World),sh.length<=m->f+m=L.length->U.size=L.length ->
  (∀j,j<m->U.getD j false=true)->(∀j,m<=j->U.getD j false=false)->wpList P L.toArray vR (L.drop m) N M->wpAny P .any L.toArray vR f U N M:=by
 intro f
 induction f with
 |zero=>
  intro m U N M G p t q A h;have r:L.length<=m:=by omega
  rw[YaL r]at h;refine⟨?_,h⟩
  cases V:Region.ready .any L.toArray U with
  |nil=>rfl
  |cons x Q=>
   obtain⟨C,o,F,_⟩:=Nl K t (i:=x) (by rw[V];simp);have:=q x (by have:=(Yae.1 F).1;omega);rw[C]at this;cases this
 |succ f v=>
  intro m U N M G p t q A h;have r:m<L.length:=by omega
  refine⟨λd=>?_,λi J=>?_⟩
  .obtain ⟨k,_,B⟩:=Lc K t m r (A m (Yah _))
   rw[d]at B;cases B
  .obtain ⟨l,o,F,b⟩:=Nl K t J
   have s:=(Yae.1 F).1
   have y:m<=i:=by
    rcases YaD i m with O | hge
    .have:=q i O;rw[l]at this;cases this
    .exact hge
   have X:∀j Z,L[j]? = some Z->U.getD j false=true->∀e∈Bz Z,U.getD e false=true:=λj Z Y I e E=>by
    have u:j<m:=by
     rcases YaD j m with O | hge
     .exact O
     .rw [A j hge]at I;cases I
    exact q e (Yek ((CN K Y).1 e E) u)
   have z:i=m:=by
    rcases YaD m i with O | hge
    .have:=KH K t X ZbG F b m O
     rw[A m (Yah _)]at this;cases this
    .omega
   subst z;rw[Ycn r]at h;have heq:L[i]=o:=by rw[Yac r]at F;exact Yag F
   rw[heq]at h
   have S:∀a w,wpList P L.toArray vR (L.drop (i+1)) a w->wpAny P .any L.toArray vR f (U.setIfInBounds i true) a w:=λa w c=>
    v (i + 1) _ a w ZbG ZbG (by simpa using t) (fun j W => by
     by_cases g:j=i
     .subst g;simp[t,r]
     .exact getD_set_true (q j ZbG)) (λj W=>by rw[getD_set_ne false ZbG];exact A j ZbG) c
   unfold wpOp;have n:L.toArray[i]? = some o:=by simpa using F
   rw[n];simp only[wpList]at h ⊢;split
   .rename_i c;rw[Yan c]at h;exact h.imp (Oper.wp_mono S) id
   .rename_i c;rw[Yai c]at h;exact S _ _ h
theorem Hn{g:Nat->Value}:∀(l:List Oper) (i:Nat) (b:Act),(∀(j k:Nat) (o J:Oper) (d:Nat),l[j]? = some o->l[k]? = some J->o.dst=some d->J.dst=some d->j=k)->(∀o∈l,∀d,o.dst=some d->d<b.tmps.size) ->
  (Fw g l i b).tmps.size=b.tmps.size/\(Fw g l i b).defers=b.defers /\
  (∀(j:Nat) (o:Oper) (d:Nat),l[j]? = some o->o.dst=some d->(Fw g l i b).tmps[d]? = some (g (i+j))) /\
  (∀t:Nat,(∀(j:Nat) (o:Oper),l[j]? = some o->o.dst≠some t)->(Fw g l i b).tmps[t]? = b.tmps[t]?)
 |[],i,b,_,_=>⟨rfl,rfl,λj o d h=>by simp at h,λt _=>rfl⟩
 |o::l,i,b,I,E=>by
  have Z:(b.put o.dst (g i)).tmps.size=b.tmps.size:=by unfold Act.put;split<;>simp
  obtain⟨q,A,K,Y⟩:=Hn (g:=g) l (i+1) (b.put o.dst (g i)) (λj k N Q d W B F y=>by
   have:=I (j+1) (k+1) N Q d Zez Zdn F y;omega) (λJ M d f=>by rw[Z];exact E J (by simp[M]) d f)
  refine⟨q.trans Z,A.trans (by unfold Act.put;split<;>rfl),λj J d W S=>?_,λt C=>?_⟩
  .cases j with
   |zero=>
    simp at W;subst W;show(Fw g l (i+1) (b.put o.dst (g i))).tmps[d]? = _
    rw[Y d λk Q B e=>by
     have:=I 0 (k+1) o Q d rfl Zdn S e;omega]
    have:=E o ZbV d S;simp[Act.put,S,this]
   |succ j=>
    have:=K j J d Zez S;rw[show i+(j+1)=i+1+j by omega];exact this
  .show (Fw g l (i+1) (b.put o.dst (g i))).tmps[t]? = _
   rw[Y t λk Q B=>C (k+1) Q Zdn];have G:=C 0 o rfl;unfold Act.put;split
   .rename_i O f
    have:O≠t:=λe=>G ZeI;exact Zju
   .rfl
theorem NM{x y:Act}(h:x.tmps=y.tmps)(V:x.defers=y.defers):x=y:=by
 cases x;cases y;simp_all
theorem head_run(H:Eg L sh=true)(Z:HI L sh.length a.tmps.size=true)
  (xA:∀F∈Rs,∀R w1 w2,Ext w1 w2->F R w1->F R w2) (xp:StepsAt P sh Rs a w0 0 L sh Rs)
  (xt:∀g N,Ext w0 N->(∀(j:Nat) (y:Shape) (F:Fact),sh[j]? = some y->Rs[j]? = some F->F (y.deps.map g) N)->wpList P L.toArray vR (L.drop sh.length) (Fw g (L.take sh.length) 0 a) N) :
  ∀(f:Nat) (U:Array Bool) (g:Nat->Value) (a':Act) (N:World),Jy U=f->HInv L sh Rs a w0 U g a' N->wpAny P .any L.toArray vR f U a' N:=by
 obtain⟨xb,xn⟩:=xp.at;intro f
 induction f with
 |zero=>
  intro U g a' N s xa
  have xe:∀j,j<L.length->U.getD j false=true:=λj W=>Zae
  refine Ni H 0 L.length U a' N (DH H) ZbG xa.size xe (λj W=>by simp[xa.size,W]) ?_
  exact Zaf
 |succ f ih=>
  intro U g a' N s xa;by_cases xk:∀j,j<sh.length->U.getD j false=true
  .have xI:f+1+sh.length=L.length:=Zag
   refine Ni H (f+1) sh.length U a' N (Yah _) xI xa.size xk xa.tail ?_;have:=xt g N xa.ext λj y F O hF=>xa.facts j y F O hF (xk j (EM O))
   have xG:Fw g (L.take sh.length) 0 a=a':=Zah
   rw[xG]at this;exact this
  .have xH:∃j,j<sh.length/\U.getD j false=false:=Ydi λxm=>xk λj W=>Zai
   obtain⟨j0,xL,xs⟩:=xH;refine⟨λX=>?_,λi K=>?_⟩
   .obtain ⟨k,_,C⟩:=Lc H xa.size j0 (Yaq xL (DH H)) xs
    rw[X]at C;cases C
   .obtain ⟨xg,o,r,xf⟩:=Nl H xa.size K
    have xr:i<sh.length:=Zaj
    have E:sh[i]? = some sh[i]:=Yac xr;obtain⟨F,hF,z⟩:=xn i o _ r E;rw[YaG]at z;have xo:i<U.size:=Zjf
    have xm:=(CN H r).2.1 _ E;simp only[Fm,Yam]at xm
    obtain⟨xu,xv⟩:=z g N (Qu a g sh[i].env) xa.ext (λx xw j W y G O hG=>by
      have:x=sh[i]:=Yag (xw.symm.trans E);subst this;exact xa.facts j y G O hG (Eo H xa.closed i _ o E r xf j W))
     (SF λp J=>by
      obtain⟨A,B,u,xc,xd⟩:=HH H E r J
      cases xi:sh[i].env.find? (λq=>q.1==p.1)with
      |none=>have:=Ycx.1 xi p J;simp at this
      |some q=>
       have m:=Ybt xi;have xM:q.1=p.1:=by simpa using YcQ xi
       obtain⟨_,Y,o2,xx,xq⟩:=HH H E r m;rw[xM]at xq;have:=Gs H Y B xx xc xq xd;simp only[Qu,xi,this])
     (λt M=>by
      have:sh[i].env.find? (λq=>q.1==t)=none:=Ycx.2 λp J=>by simpa using M p J
      simp only[Qu,this])
     (λ_=>rfl) (λ_=>rfl)
    have xN:=wanted_of H xa r E xf
    have xJ:∀v w2 b,(a'.put o.dst v)=b->Ext N w2->F (sh[i].deps.map (upd g i v)) w2->wpAny P .any L.toArray vR f (U.setIfInBounds i true) b w2:=λv w2 b I S xy=>by
     subst I;refine ih _ (upd g i v) _ _ ?_ (step_inv H Z xA xa r E hF xg xf S xy);have:=MN xo xg;omega
    unfold wpOp;have xx:L.toArray[i]? = some o:=by simpa using r
    rw[xx];show if Region.wanted o (yielded L.toArray a'.tmps)=true then _ else _
    rw[xN];split
    .rename_i hw
     exact Zjv
    .rename_i hw
     exact xJ undef N _ rfl (Ext.refl _) (xv (by simpa using hw))
theorem wp_region_ext{L:List Oper}{a:Act}(x:P.follows .mixedOrders=true)(sh:List Shape)(Rs:List Fact)(C:Eg L sh=true)(e:HI L sh.length a.tmps.size=true)
  (G:∀F∈Rs,∀J q A,Ext q A->F J q->F J A) (B:StepsAt P sh Rs a w.drew 0 L sh Rs)
  (E:∀g M,Ext w.drew M->(∀(j:Nat) (y:Shape) (F:Fact),sh[j]? = some y->Rs[j]? = some F->F (y.deps.map g) M)->wpList P L.toArray vR (L.drop sh.length) (Fw g (L.take sh.length) 0 a) M) :
  (Code.region n L.toArray true).wp P vR a w:=by
 refine wp_region_any x ?_;have Q:Jy (Array.replicate L.toArray.size false)=L.toArray.size:=by simp[Jy,List.filter_replicate]
 refine head_run C e G B E _ _ (λ_=>undef) a _ Q ?_
 have u:∀j,(Array.replicate L.toArray.size false).getD j false=false:=λj=>Zak
 exact⟨by simp,(λj o _ h=>by rw[u]at h;cases h),λt _=>u t,rfl,rfl,(λj o d _ _ h=>by rw[u]at h;cases h),λt _=>rfl,(λj y F _ _ h=>by rw[u]at h;cases h),Ext.refl _⟩
end
abbrev VFact:=Value->World->Prop
def OpsKnown(H:List VFact)(i:Operand->Value)(w:World):List (Nat×Nat)->Prop
 |[]=>True
 |(t,j)::r=>(∀F,H[j]? = some F->F (i (.tmp t)) w)/\OpsKnown H i w r
def UStep(P:Program)(H:List VFact)(a:Act)(W:World)(o:Oper)(env:List (Nat×Nat))(F:VFact):Prop:=
 ∀(w:World) (i:Operand->Value),Ext W w->OpsKnown H i w env ->
  (∀t,(∀p∈env,p.1≠t)->i (.tmp t)=a.tmps.getD t undef)->(∀v,i (.const v)=v)->(∀f,i (.func f)=.func (.func f) #[] #[]) ->
  match o.guard with
  |none=>OpStep P o i w λv M=>Ext w M/\F v M
  |some (j,b)=>∀O,(∀G,H[j]? = some G->G O w)->(O=.bool b->OpStep P o i w λv M=>Ext w M/\F v M)/\(O≠.bool b->F undef w)
def USteps(P:Program)(H:List VFact)(a:Act)(W:World):List Oper->List (List (Nat×Nat))->List VFact->Prop
 |o::L,x::S,F::T=>UStep P H a W o x F/\USteps P H a W L S T
 |_,[],[]=>True
 |_,_,_=>False
theorem USteps.cons{H:List VFact}{a:Act}{L:List Oper}{x:List (Nat×Nat)}{S:List (List (Nat×Nat))}{F:VFact}{T:List VFact}(h:UStep P H a w va x F)(Z:USteps P H a w L S T) :
  USteps P H a w (va::L) (x::S) (F::T):=⟨h,Z⟩
theorem USteps.nil{H:List VFact}{a:Act}{L:List Oper}:USteps P H a w L [] []:=by cases L<;>trivial
def Ge:Nat->List (List (Nat×Nat))->List (List Nat)->List Shape
 |i,e::o,b::u=>⟨e,b,[i]⟩::Ge (i+1) o u
 |_,_,_=>[]
theorem KK:∀{o:List (List (Nat×Nat))} {u:List (List Nat)} {i k:Nat} {x:Shape},(Ge i o u)[k]? = some x->x.deps=[i+k]/\o[k]? = some x.env
 |[],_,i,k,x,h=>by simp[Ge]at h
 |_::_,[],i,k,x,h=>by simp[Ge]at h
 |e::o,b::u,i,0,x,h=>by
  simp only[Ge,List.getElem?_cons_zero,Yde]at h;subst h;exact⟨rfl,rfl⟩
 |e::o,b::u,i,k+1,x,h=>by
  simp only[Ge,YcV]at h;obtain⟨q,A⟩:=KK h;exact⟨by rw[q];congr 1;omega,by simpa using A⟩
def unF(F:VFact):Fact:=λJ w=>match J with | [v]=>F v w | _=>False
theorem usteps_steps{P:Program}{a:Act}{w0:World}{Fs:List VFact}{sh:List Shape}{L0:List Oper}(r:Eg L0 sh=true)(xq:∀(k:Nat) (x:Shape),sh[k]? = some x->x.deps=[k]) :
  ∀{L:List Oper} {X:List (List (Nat×Nat))} {bs:List (List Nat)} {T:List VFact} {i:Nat},(∀k,L[k]? = L0[i+k]?)->(∀k,(Ge i X bs)[k]? = sh[i+k]?)->X.length=bs.length->USteps P Fs a w0 L X T ->
   StepsAt P sh (Fs.map unF) a w0 i L (Ge i X bs) (T.map unF)
 |L,[],[],[],i,_,_,_,_=>by cases L<;>exact trivial
 |L,[],[],_::_,i,_,_,_,h=>by cases L<;>exact h.elim
 |L,[],_::_,T,i,_,_,K,h=>by simp at K
 |L,_::_,[],T,i,_,_,K,h=>by simp at K
 |[],_::_,_::_,T,i,_,_,_,h=>by cases T<;>exact h.elim
 |_::_,_::_,_::_,[],i,_,_,_,h=>h.elim
 |o::L,e::X,b::bs,F::T,i,z,H,K,h=>Zal
theorem wp_region_u{L:List Oper}(A:P.follows .mixedOrders=true)(o:List (List (Nat×Nat)))(u:List (List Nat))(H:List VFact)
  (K:(o.length==u.length&&o.length==H.length)=true) (B:Eg L (Ge 0 o u)=true) (q:HI L o.length vj.tmps.size=true)
  (Y:∀F∈H,∀v E S,Ext E S->F v E->F v S) (t:USteps P H vj w.drew L o H)
  (X:∀(g:Nat->Value) (M:World),Ext w.drew M->(∀(j:Nat) (F:VFact),H[j]? = some F->F (g j) M)->wpList P L.toArray vR (L.drop o.length) (Fw g (L.take o.length) 0 vj) M) :
  (Code.region n L.toArray true).wp P vR vj w:=by
 simp only[Yam,Ycw]at K
 have Z:∀(o:List (List (Nat×Nat))) (u:List (List Nat)) (i:Nat),o.length=u.length->(Ge i o u).length=o.length:=by
  intro o
  induction o with
  |nil=>intro u i _;cases u<;>rfl
  |cons e o O=>
   intro u i h
   cases u with
   |nil=>simp at h
   |cons b u=>simp[Ge,O u (i+1) Zdf]
 have I:=Z o u 0 K.1;refine wp_region_ext A (Ge 0 o u) (H.map unF) B (by rw[I];exact q) ?_ ?_ ?_
 .intro F hF J E S a h
  obtain⟨G,V,rfl⟩:=YaA.1 hF;unfold unF at *;split at h
  .rename_i v;exact Y G V v E S a h
  .exact h.elim
 .exact usteps_steps B (λk x C=>by have:=(KK C).1;rwa [YaG]at this) (λk=>by rw[YaG]) (λk=>by rw[YaG]) K.1 t
 .intro g M Q p
  rw[I];refine X g M Q λj F hF=>?_
  have W:j<(Ge 0 o u).length:=by
   rw[I];have:=(Yae.1 hF).1;omega
  have N:(Ge 0 o u)[j]? = some (Ge 0 o u)[j]:=Yac W;have:=p j _ (unF F) N (by rw[Yau,hF];rfl);rw[(KK N).1]at this;simpa[unF]using this
def Stab(F:VFact):Prop:=∀v g q,Ext g q->F v g->F v q
def StabAll:List VFact->Prop
 |[]=>True
 |F::r=>Stab F/\StabAll r
theorem StabAll.cons{F:VFact}{r:List VFact}(h:Stab F)(Z:StabAll r):StabAll (F::r):=⟨h,Z⟩
theorem StabAll.nil:StabAll []:=trivial
theorem StabAll.mem:∀{H:List VFact},StabAll H->∀F∈H,Stab F
 |[],_,F,h=>by cases h
 |G::r,h,F,hF=>Zam
theorem Stab.eq(u:Value):Stab (λv _=>v=u):=λ_ _ _ _ h=>h
variable{uM:VFact}
theorem AB{v:Value}(h:(execOp uy va).run P w=.ok (.value v) w)(hF:uM v w):OpStep P va uy w λv M=>Ext w M/\uM v M:=by
 unfold OpStep;rw[h];exact⟨Ext.refl _,hF⟩
theorem XO{v:Value}(h:(execOp uy va).run P w=.ok (.value v) p)(Q:Ext w p)(hF:uM v p):OpStep P va uy w λv p=>Ext w p/\uM v p:=by
 unfold OpStep;rw[h];exact⟨Q,hF⟩
theorem Cz{f:FuncId}{R:Ending->World->Prop}(h:(execOp uy va).run P w=.ok (.enter f vE) w)(F:Calls P f vE w R)
  (B:∀e M,R e M->∃v,e=.returned v/\Ext w M/\uM v M):OpStep P va uy w λv M=>Ext w M/\uM v M:=by
 unfold OpStep;rw[h];exact F.mono B
theorem wp_region_v{L:List Oper}(x:P.follows .mixedOrders=true)(o:List (List (Nat×Nat)))(u:List (List Nat))(H:List VFact)
  (q:(o.length==u.length&&o.length==H.length)=true) (C:Eg L (Ge 0 o u)=true) (e:HI L o.length vj.tmps.size=true) (stab:StabAll H) (steps:USteps P H vj w.drew L o H)
  (fin:∀(g:Nat->Value) (M:World),Ext w.drew M->(∀(j:Nat) (F:VFact),H[j]? = some F->F (g j) M)->wpList P L.toArray vR (L.drop o.length) (Fw g (L.take o.length) 0 vj) M) :
  (Code.region n L.toArray true).wp P vR vj w:=
 wp_region_u x o u H q C e (λF hF=>stab.mem F hF) steps fin
def BB:Nat:=4294967296
theorem CP:0<BB:=by decide
theorem BE:BB=4294967296:=rfl
theorem Uq:1<BB:=by decide
def val:List Nat->Nat
 |[]=>0
 |x::l=>x+BB*val l
def Aw(n:Nat):List Nat:=if h:n=0 then[]else(n%BB)::Aw (n/BB)
termination_by n
decreasing_by exact Ydr (YbA h) ZbL
def BN(l:List Nat):Prop:=∀x∈l,x<BB
theorem BL:Aw 0=[]:=by rw[Aw];simp
theorem Fh(h:n≠0):Aw n=(n%BB)::Aw (n/BB):=by rw[Aw];simp[h]
theorem AK(n:Nat):val (Aw n)=n:=by
 induction n using Nat.strongRecOn with
 |_ n v=>
  by_cases h:n=0
  .subst h;rw[BL];rfl
  .rw [Fh h]
   show n%BB+BB*val (Aw (n/BB))=n;rw[v (n/BB) (Ydr (YbA h) ZbL)];exact YcF n BB
theorem BG(n:Nat):BN (Aw n):=by
 induction n using Nat.strongRecOn with
 |_ n v=>
  by_cases h:n=0
  .subst h;rw[BL];intro x C;cases C
  .rw [Fh h]
   intro x C;rcases YaM.1 C with rfl | C
   .exact YaV _ CP
   .exact v (n/BB) (Ydr (YbA h) ZbL) x C
theorem Iv(l m:List Nat):val (l++m)=val l+BB^l.length*val m:=by
 induction l with
 |nil=>simp[val]
 |cons x l v=>
  simp only[Ycz,val,v,Yay,Ybr];rw[YaE,YbT,YaN (BB^l.length) BB,Ybb]
theorem Ej(h:BN l):val l<BB^l.length:=by
 induction l with
 |nil=>simp[val]
 |cons x l v=>
  have q:=h x ZbV;have A:=v λy N=>h y (by simp[N]);simp only[val,Yay,Ybr];have K:BB*(val l+1)<=BB*BB^l.length:=Yas _ A;rw[YaE,YaN BB (BB^l.length)]at K;omega
def Em:List Nat->List Nat
 |[]=>[]
 |x::l=>match Em l with
  |[]=>if x=0 then[]else[x]
  |y::r=>x::y::r
theorem A2H(l:List Nat):val (Em l)=val l:=by
 induction l with
 |nil=>rfl
 |cons x l v=>
  simp only[Em];split
  .rename_i h
   rw[h]at v;have v:val l=0:=by rw[<-v];rfl
   split
   .subst x;simp[val,v]
   .simp [val,v]
  .rename_i y r h
   rw[h]at v;show x+BB*val (y::r)=x+BB*val l;rw[v]
theorem Bo(h:BN l):Em l=Aw (val l):=by
 induction l with
 |nil=>simp[Em,val,BL]
 |cons x l v=>
  have C:=h x ZbV;have v:=v λy N=>h y (by simp[N]);have A:(x+BB*val l)/BB=val l:=by rw[Nat.add_mul_div_left _ _ CP,YbJ C];omega
  have E:(x+BB*val l)%BB=x:=by rw[Nat.add_mul_mod_self_left,YaS C]
  simp only[Em,val];split
  .rename_i d
   have B:val l=0:=by rw[<-A2H,d];rfl
   split
   .subst x;simp[B,BL]
   .rename_i F
    rw[Fh ZbG,A,E,B,BL]
  .rename_i y r d
   have F:x+BB*val l≠0:=by
    intro e
    have B:val l=0:=by
     have:=CP;rcases Yax (val l)with q | q
     .exact q
     .have:=YcW this q;omega
    rw[B,BL,d]at v;cases v
   rw[Fh F,A,E,<-v,d]
theorem Qm(l:List Nat):Em (l++[0])=Em l:=by
 induction l with
 |nil=>simp[Em]
 |cons x l v=>simp only[Ycz,Em,v]
theorem ZV(h:n≠0):Em (l++[n])=l++[n]:=by
 induction l with
 |nil=>simp[Em,h]
 |cons y l v=>
  simp only[Ycz,Em,v];cases l<;>simp
theorem Ia(l:List Nat):(Em l).length<=l.length:=by
 induction l with
 |nil=>simp[Em]
 |cons x l v=>
  simp only[Em];split
  .split<;>simp
  .rename_i y r h;rw[h]at v;simpa using v
theorem Rj{k:Nat}(B:k<l.length)(d:l[k]=0):Em (l.take (k+1))=Em (l.take k):=by
 rw[Yck B,d,Qm]
theorem Mv{k:Nat}(B:k<l.length)(d:l[k]≠0):Em (l.take (k+1))=l.take (k+1):=by
 rw[Yck B,ZV d]
def Words(w:World)(v:Value)(l:List Nat):Prop:=
 ∃(A:Option Addr) (c:Nat),v=.slice A l.length c/\l.length<=c/\c<=9223372036854775807/\BN l /\
  (0<l.length->∃(b o:Nat) (f:Array Value) (Q:Nat×Nat),A=some ⟨b,o,none⟩/\w.heap[b]? = some (.cells f 335 Q)/\∀i,(J:i<l.length)->f[o+i]? = some (.int .u32 (l[i]:Nat)))
theorem Bw{o:Obj}(h:w.heap[n]? = some o):n<w.heap.size:=(Ybz.1 h).1
theorem Words.ext{v:Value}(h:Words w v l)(a:Ext w p):Words p v l:=by
 obtain⟨A,c,r,F,x,Z,C⟩:=h;refine⟨A,c,r,F,x,Z,λI=>?_⟩;obtain⟨b,o,f,Q,K,E,J⟩:=C I;exact⟨b,o,f,Q,K,(a.block (Bw E)).trans E,J⟩
theorem Words.small{v:Value}(h:Words w v l):BN l:=by
 obtain⟨_,_,_,_,_,Z,_⟩:=h;exact Z
theorem Words.nil(w:World)(A:Option Addr)(c:Nat)(F:c<=9223372036854775807):Words w (.slice A 0 c) []:=⟨A,c,rfl,Yaw _,F,(λx C=>by cases C),(λh=>by cases h)⟩
theorem Db{b o:Nat}{Q:Nat×Nat}(h:w.heap[b]? = some (.cells vE t Q)):w.cell? ⟨b,o,none⟩=vE[o]?:=by simp[World.cell?,h]
theorem Words.open_{v:Value}(h:Words w v l):∃(A:Option Addr) (c:Nat),v=.slice A l.length c/\l.length<=c/\c<=9223372036854775807 /\
  (0<l.length->∃(b o:Nat),A=some ⟨b,o,none⟩/\b<w.heap.size/\∀i,i<l.length->w.cell? ⟨b,o+i,none⟩=some (.int .u32 (l.getD i 0:Nat))):=by
 obtain⟨A,c,r,F,x,Z,C⟩:=h;refine⟨A,c,r,F,x,λI=>?_⟩;obtain⟨b,o,f,Q,K,E,J⟩:=C I;exact⟨b,o,K,Bw E,λi s=>by rw[Db E,J i s];simp[s]⟩
theorem Words.take{c:Nat}(h:Words w (.slice ut l.length c) l){k:Nat}(B:k<=l.length):Words w (.slice ut k c) (l.take k):=by
 obtain⟨M,L,r,F,A,Z,C⟩:=h;injection r with q _ K
 subst q;subst K;have I:(l.take k).length=k:=by simp[B]
 refine⟨ut,c,by rw[I],by omega,A,λx C=>Z x (Ybs C),λG=>?_⟩;obtain⟨b,o,f,Q,N,E,J⟩:=C ZbG;exact⟨b,o,f,Q,N,E,λi O=>by rw[J i ZbG];simp⟩
def wv(l:List Nat):Array Value:=(l.map λx=>Value.int .u32 (x:Nat)).toArray
theorem A75(l:List Nat):(wv l).size=l.length:=by simp[wv]
theorem A4q(h:n<l.length):(wv l)[n]? = some (.int .u32 (l[n]:Nat)):=by simp[wv,h]
theorem Ed(h:n<l.length):(wv l)[n]? = some (.int .u32 (l.getD n 0:Nat)):=by simp[wv,h]
theorem Jt(l:List Nat)(i x:Nat):(wv l).setIfInBounds i (.int .u32 (x:Nat))=wv (l.set i x):=by simp[wv,List.map_set]
def Blk(w:World)(g:Nat)(t:TypeId)(f:Array Value):Prop:=w.heap[g]? = some (.cells f t (0,0))
theorem Blk.lt{g:Nat}(h:Blk w g t vE):g<w.heap.size:=Bw h
theorem Blk.cell{g:Nat}(h:Blk w g t vE)(i:Nat):w.cell? ⟨g,i,none⟩=vE[i]?:=Db h
theorem Blk.frozen(h:Blk w n t vE)(i:Nat):w.frozen? ⟨n,i,none⟩=false:=by
 unfold Blk at h;simp[World.frozen?,h]
theorem Blk.new(w:World)(t:TypeId)(f:Array Value):Blk (w.alloc (.cells f t)) w.heap.size t f:=heap_alloc_new w _
theorem EQ{b:Nat}(t:TypeId)(f:Array Value)(h:b=w.heap.size):Blk (w.alloc (.cells f t)) b t f:=h▸Blk.new w t f
theorem Blk.drew{g:Nat}(h:Blk w g t vE):Blk w.drew g t vE:=h
theorem Blk.alloc{g:Nat}(h:Blk w g t vE)(o:Obj):Blk (w.alloc o) g t vE:=(Below.heap_alloc w o g h.lt).trans h
theorem Blk.set{g:Nat}(h:Blk w g t vE)(i:Nat)(u:Value):Blk (w.setCell ⟨g,i,none⟩ u) g t (vE.setIfInBounds i u):=by
 unfold Blk at h ⊢;simp[World.setCell,YdJ,h]
theorem Blk.far(h:Blk w n t vE){p:Addr}(G:n≠p.block)(u:Value):Blk (w.setCell p u) n t vE:=(Below.heap_setCell w p u n G).trans h
theorem Blk.ext{g:Nat}(h:Blk w g t vE)(a:Ext w p):Blk p g t vE:=(a.block h.lt).trans h
theorem CI{c:Nat}(h:Blk w n 335 (wv l))(Z:BN l)(F:l.length<=c)(x:c<=9223372036854775807):Words w (.slice (some ⟨n,0,none⟩) l.length c) l:=
 ⟨_,c,rfl,F,x,Z,λ_=>⟨n,0,_,_,rfl,h,λi J=>by rw[YaG];exact A4q J⟩⟩
def Ty(w:World)(b:Nat)(t:TypeId):Prop:=∃f Q,w.heap[b]? = some (.cells f t Q)
theorem Ty.ext{b:Nat}(h:Ty w b t)(a:Ext w p):Ty p b t:=by
 obtain⟨f,Q,h⟩:=h;exact⟨f,Q,(a.block (Bw h)).trans h⟩
theorem Ty.set{b:Nat}(h:Ty w b t)(p:Addr)(u:Value):Ty (w.setCell p u) b t:=by
 obtain⟨f,Q,h⟩:=h;by_cases E:b=p.block
 .subst E
  exact⟨_,Q,by simp[World.setCell,YdJ,h];rfl⟩
 .exact ⟨f,Q,(Below.heap_setCell w p u b E).trans h⟩
theorem Ty.new(w:World)(f:Array Value)(t:TypeId):Ty (w.alloc (.cells f t)) w.heap.size t:=⟨f,_,heap_alloc_new w _⟩
theorem Fu(f:Array Value)(t:TypeId)(h:n=w.heap.size):Ty (w.alloc (.cells f t)) n t:=h▸Ty.new w f t
theorem Ty.drew{b:Nat}(h:Ty w b t):Ty w.drew b t:=h
theorem Ty.alloc{b:Nat}(h:Ty w b t)(o:Obj):Ty (w.alloc o) b t:=h.ext ((Ext.refl _).alloc o)
theorem Blk.ty{g:Nat}(h:Blk w g t vE):Ty w g t:=⟨vE,_,h⟩
theorem Ext.set{w g:World}(h:Ext w g){p:Addr}(G:w.heap.size<=p.block)(u:Value):Ext w (g.setCell p u):=Below.setCell h G u
theorem Words.set{v:Value}(h:Words w v l){p:Addr}(L:Ty w p.block t)(B:t≠335)(u:Value):Words (w.setCell p u) v l:=by
 obtain⟨A,c,r,F,x,Z,C⟩:=h;refine⟨A,c,r,F,x,Z,λI=>?_⟩;obtain⟨b,o,f,Q,K,E,J⟩:=C I
 have i:b≠p.block:=by
  rintro rfl;obtain⟨q,G,V⟩:=L;rw[E]at V;injection V with V
  injection V with _ M
  exact B M.symm
 exact⟨b,o,f,Q,K,(Below.heap_setCell w p u b i).trans E,J⟩
theorem TC(h:n<l.length):val (l.take (n+1))=val (l.take n)+BB^n*l.getD n 0:=by
 rw[Yck h,Iv];simp[val,h,Ybx (YbV h)]
theorem Xr(h:l.length<=n):val (l.take (n+1))=val (l.take n)+BB^n*l.getD n 0:=by
 rw[Yar h,Yar ZbG];simp[h]
theorem Bh(l:List Nat)(k:Nat):val (l.take (k+1))=val (l.take k)+BB^k*l.getD k 0:=by
 rcases YaD k l.length with h | h
 .exact TC h
 .exact Xr h
theorem Ds:(l.set n b).take n=l.take n:=by
 rw[List.take_set,List.set_eq_of_length_le ZgP]
theorem Cr{k x:Nat}(h:k<l.length):(l.set k x).getD k 0=x:=by simp[h]
theorem Be(h:BN l)(k:Nat):l.getD k 0<BB:=by
 rcases YaD k l.length with B | B
 .simp only[Yab,Yac B,Option.getD_some]
  exact h _ (Ybm B)
 .simp [B,CP]
theorem Do(h:BN l)(k:Nat)(C:n<BB):BN (l.set k n):=λy N=>by
 rcases List.mem_or_eq_of_mem_set N with q | q
 .exact h y q
 .rw [q];exact C
theorem Cx(n:Nat):BN (List.replicate n 0):=λx C=>by
 rw[List.eq_of_mem_replicate C];exact CP
theorem A2P(B:n<vo.length)(C:l.getD n 0=T)(N:h.getD n 0=m)(s:T<BB)(d:m<BB)(F:b<=1)
  (q:val (vo.take n)+BB^n*b=val (l.take n)+val (h.take n)) :
  val ((vo.set n ((T+b+m)%BB)).take (n+1))+BB^(n+1)*((T+b+m)/BB)=val (l.take (n+1))+val (h.take (n+1))/\(T+b+m)/BB<=1:=by
 constructor
 .rw [Bh,Ds,Cr B,Bh l,Bh h,C,N]
  have e:=YcF (T+b+m) BB
  have y:BB^n*((T+b+m)%BB)+BB^(n+1)*((T+b+m)/BB)=BB^n*(T+b+m):=by
   rw[Ybr,Ybb,<-YaE,e]
  have A:BB^n*(T+b+m)=BB^n*T+BB^n*b+BB^n*m:=by rw[YaE,YaE]
  omega
 .have:T+b+m<2*BB:=by omega
  have:=Yby (show T+b+m<BB*2 by omega);omega
theorem El(v:Value)(l:List Nat)(w:World)(h:Words w v l) :
  Calls prog 287 #[v] w λe M=>∃L,e=.returned L/\Words M L (Em l)/\Ext w M:=by
 obtain⟨A,c,rfl,F,I,C⟩:=h.open_;have H:=Af h;have Z:=Af h.small;clear h;have Q:=Af C;clear C;obtain⟨n,G⟩:∃n,n=l.length:=⟨_,rfl⟩;rw[<-G]at F ⊢;have m:=Af G;clear G;go_enter func287,ntmps287;go_wp2;go_loop [3] (λt=>∃k:Nat,k<=n/\t=.int .i64 k/\Hid (Em l=Em (l.take k))) (λt=>(intOf t).toNat)
 case atStart=>exact Zjw
 case round=>
  exact Zan
theorem CB(n:Nat)(h:n<=70368744177664)(p r:IntKind)(W:World) :
  (Instr.makeSlice 107 (.int p (n:Int)) (.int r (n:Int))).run prog W=.ok (.slice (some ⟨W.heap.size,0,none⟩) n n) (W.alloc (.cells (wv (List.replicate n 0)) 335)):=by
 obtain⟨i,J,d,j,q⟩:=info_parts (show(Tryz.prog.info? 335).map (λi=>(i.zero,i.size,i.bytes))=some (some (.int .u32 0),1,4)by kernel_rfl);have E:(i.bytes:Int)*(n:Int)<=281474976710656:=by rw[q];omega
 have V:=run_make (P:=prog) W 107 335 i (.int .u32 0) underlying107 J d p r n n ZbG ZbG E ZbG;simp only[YdF]at V;rw[V]
 have:madeCells (Value.int .u32 0).cells (n*i.size)=wv (List.replicate n 0):=by
  apply Array.ext';rw[j,YbF];show(madeCells #[Value.int .u32 0] n).toList=_;rw[toList_madeCells_one];simp[wv]
 rw[this]
def Ac3(w wr:World)(Z q r:List Nat)(n k Q:Nat):Prop:=
 r.length=n+1/\BN r/\Blk wr w.heap.size 335 (wv r)/\val (r.take k)+BB^k*Q=val (Z.take k)+val (q.take k)/\Ext w wr
def DifRel(w wr:World)(Z q r:List Nat)(n k Q:Nat):Prop:=
 r.length=n/\BN r/\Blk wr w.heap.size 335 (wv r)/\val (r.take k)+val (q.take k)=val (Z.take k)+BB^k*Q/\Ext w wr
theorem DifRel.step{Z L r:List Nat}{n k Q x y:Nat}(h:DifRel w p Z L r n k Q)(C:k<n)(E:Z.getD k 0=x)(N:L.getD k 0=y)(s:x<4294967296)(d:y<4294967296)(F:Q<=1){u z:Int}
  (S:u=(x+BB*(if x<Q+y then 1 else 0)-Q-y:Nat)) (I:z=(if x<Q+y then 1 else 0:Nat)) :
  ∃(M J:Nat) (a:List Nat),M<=n/\Value.int .i64 ((k:Int)+1)=.int .i64 M/\Value.int .u64 z=.int .u64 J/\J<=1/\Hid (DifRel w (p.setCell ⟨w.heap.size,k,none⟩ (.int .u32 u)) Z L a n M J):=by
 obtain⟨A,B,K,Y,G⟩:=h;have O:(if x<Q+y then 1 else 0:Nat)<=1:=by split<;>omega
 have o:x+BB*(if x<Q+y then 1 else 0)-Q-y<BB:=by rw[BE];split<;>omega
 have V:x+BB*(if x<Q+y then 1 else 0)-Q-y+y+Q=x+BB*(if x<Q+y then 1 else 0):=by rw[BE];split<;>omega
 generalize (if x<Q+y then 1 else 0:Nat)=J at *;generalize x+BB*J-Q-y=q at *;refine⟨k+1,J,r.set k q,C,by simp,by rw[I],O,by simpa using A,Do B k o,?_,?_,Below.setCell G (Yah _) _⟩
 .rw [S,<-Jt]
  exact K.set k _
 .rw [Bh, Ds, Cr ZbG, Bh Z, Bh L, E, N]
  have b:BB^k*q+BB^k*y+BB^k*Q=BB^k*x+BB^(k+1)*J:=by
   rw[Ybr,Ybb,<-YaE,<-YaE,<-YaE,V]
  omega
theorem DifRel.close{Z F r:List Nat}(h:DifRel w p Z F r n n b)(B:Z.length=n)(x:F.length<=n)(E:val F<=val Z):val r=val Z-val F:=by
 obtain⟨q,A,K,Y,C⟩:=h;have G:Z.take n=Z:=Yar ZbG;have v:F.take n=F:=Yar x;have a:r.take n=r:=Yar ZbG;rw[G,v,a]at Y;have O:=Ej A;rw[q]at O;rcases Yax b with d | d
 .subst d;omega
 .have:BB^n*1<=BB^n*b:=Yas _ d
  omega
theorem Nd:∀{r:List Nat} {p q z:Nat},p<q->p<r.length->val ((r.set p z).take q)+BB^p*r.getD p 0=val (r.take q)+BB^p*z
 |[],p,q,z,_,h=>by simp at h
 |x::r,0,q+1,z,_,_=>by simp[val];omega
 |x::r,p+1,q+1,z,G,I=>by
  have v:=Nd (r:=r) (p:=p) (q:=q) (z:=z) ZbG Zdo;simp only[Ybw,Ybe,val,Ydo,Ybr];have b:BB^p*BB*r.getD p 0=BB*(BB^p*r.getD p 0):=by rw[YaN (BB^p) BB,Ybb]
  have y:BB^p*BB*z=BB*(BB^p*z):=by rw[YaN (BB^p) BB,Ybb]
  rw[b,y,YbT,<-YaE,v,YaE,YbT]
def A1n(w wr:World)(Z q r:List Nat)(n m k:Nat):Prop:=
 r.length=n+m/\BN r/\Blk wr w.heap.size 335 (wv r)/\val (r.take (k+m))=val (Z.take k)*val q/\Ext w wr
def MulIn(w wr:World)(Z q r:List Nat)(n m k j x Q:Nat):Prop:=
 r.length=n+m/\BN r/\Blk wr w.heap.size 335 (wv r)/\val (r.take (k+m))+BB^(k+j)*Q=val (Z.take k)*val q+BB^k*(x*val (q.take j))/\Ext w wr
theorem MulIn.drewN{Z A r:List Nat}{n m k j x Q:Nat}(h:MulIn w p Z A r n m k j x Q)(q:Nat):MulIn w (p.drewN q) Z A r n m k j x Q:=
 ⟨h.1,h.2.1,h.2.2.1,h.2.2.2.1,h.2.2.2.2.drewN q⟩
theorem FN{x y:Nat}(C:x<4294967296)(N:y<4294967296):x*y<=18446744065119617025:=
 Yat (YaX (Nat.le_of_lt_succ C) (Nat.le_of_lt_succ N)) ZbL
theorem MulIn.step{Z O r:List Nat}{n m k j x y z Q:Nat}(h:MulIn w p Z O r n m k j x Q)(W:j<m)(B:k<n)(N:O.getD j 0=y)(J:r.getD (k+j) 0=z)(s:x<4294967296)(d:y<4294967296)(P:z<4294967296)(F:Q<4294967296){u v:Int}
  (S:u=((x*y+z+Q)%BB:Nat)) (I:v=((x*y+z+Q)/BB:Nat)) :
  ∃(c M:Nat) (a:List Nat),c<=m/\Value.int .i64 ((j:Int)+1)=.int .i64 c/\Value.int .u64 v=.int .u64 M/\M<4294967296/\Hid (MulIn w (p.setCell ⟨w.heap.size,k+j,none⟩ (.int .u32 u)) Z O a n m k c x M):=by
 obtain⟨q,A,K,Y,G⟩:=h;have E:=FN s d;have C:(x*y+z+Q)/BB<4294967296:=by rw[BE];omega
 refine⟨j+1,(x*y+z+Q)/BB,r.set (k+j) ((x*y+z+Q)%BB),W,by simp,by rw[I],C,by simpa using q,Do A _ (YaV _ CP),?_,?_,Below.setCell G (Yah _) _⟩
 .rw [S,<-Jt]
  exact K.set _ _
 .have e:=Nd (r:=r) (p:=k+j) (q:=k+m) (z:=(x*y+z+Q)%BB) ZbG ZbG
  rw[J]at e;have L:=YcF (x*y+z+Q) BB
  have V:BB^(k+j)*((x*y+z+Q)%BB)+BB^(k+(j+1))*((x*y+z+Q)/BB)=BB^(k+j)*(x*y+z+Q):=by
   rw[<-YbT,Ybr,Ybb,<-YaE,L]
  have X:BB^(k+j)*(x*y+z+Q)=BB^(k+j)*(x*y)+BB^(k+j)*z+BB^(k+j)*Q:=by rw[YaE,YaE]
  have b:BB^k*(x*val (O.take (j+1)))=BB^k*(x*val (O.take j))+BB^(k+j)*(x*y):=by
   rw[Bh,N,YaE x,YaE (BB^k),YcG];congr 1;rw[Ybb,Ybl x,Ybl (BB^j)]
  omega
theorem MulIn.close{Z I r:List Nat}{n m k x Q:Nat}(h:MulIn w p Z I r n m k m x Q)(B:k<n)(G:I.length=m)(C:Z.getD k 0=x)(F:Q<4294967296) :
  A1n w (p.setCell ⟨w.heap.size,k+m,none⟩ (.int .u32 (Q:Int))) Z I (r.set (k+m) Q) n m (k+1):=by
 obtain⟨q,A,K,Y,E⟩:=h;have v:I.take m=I:=Yar ZbG;rw[v]at Y;refine⟨by simpa using q,Do A _ (by rw[BE];exact F),?_,?_,Below.setCell E (Yah _) _⟩
 .rw [<-Jt];exact K.set _ _
 .rw [show k+1+m=k+m+1 by omega,Bh,Ds,Cr ZbG,Y,Bh Z,C,YbG,Ybb]
theorem XI(H vb:Value)(a g:List Nat)(w:World)(l:Words w H a)(G:Words w vb g)(h:a.length<=4398046511104)(S:g.length<=4398046511104) :
  Calls prog 316 #[H,vb] w λe M=>∃f,e=.returned f/\Words M f (Aw (val a*val g))/\Ext w M:=by
 obtain⟨A,c,rfl,I,xm,F⟩:=l.open_;obtain⟨B,d,rfl,L,xo,N⟩:=G.open_;have xg:=Af l.small;have xk:=Af G.small;clear l G;have hA:=Af F;have hB:=Af N;clear F N;obtain⟨n,U⟩:∃n,n=a.length:=⟨_,rfl⟩;obtain⟨m,R⟩:∃m,m=g.length:=⟨_,rfl⟩;rw[<-U]at I h ⊢;rw[<-R]at L S ⊢;replace U:=Af U;replace R:=Af R;have xj:=λW=>CB (n+m) ZbG .i64 .i64 W;simp only[Ycq]at xj;go_enter func316,ntmps316;go_wp2;go_loopw [19] (λi wr=>∃(k:Nat) (r:List Nat),k<=n/\i=.int .i64 k/\Hid (A1n w wr a g r n m k)) (λi _=>n-(intOf i).toNat)
 case atStart => exact ⟨0, List.replicate (n + m) 0, Yaw _, rfl, by simp, Cx _, Blk.new _ _ _, by
  have:∀q,val (List.replicate q 0)=0:=λq=>by
   induction q with
   |zero=>rfl
   |succ q v=>simp[YdZ,val,v]
  simp[val,List.take_replicate,this],(Ext.refl _).alloc _⟩
 case round=>
  obtain⟨k,r,E,rfl,X⟩:=hrel;by_cases O:k<n
  .obtain ⟨b, o, rfl, G, s⟩:=hA.out Zfb
   replace s:=(X.out.2.2.2.2.cell (p:=⟨b,o+k,none⟩) G).trans (s k Zct);have xc:=Be xg.out k;generalize F:a.getD k 0=x at *;replace F:=Af F;unfold BB at xc;go_wp2;obtain⟨wo,rfl⟩:∃wo:World,wo=wr:=⟨_,rfl⟩;go_loopw [7,29] (λcy i wr=>∃(j Y:Nat) (r:List Nat),j<=m/\i=.int .i64 j/\cy=.int .u64 Y/\Y<4294967296/\Hid (MulIn w wr a g r n m k j x Y)) (λ_ i _=>m-(intOf i).toNat)
   case atStart=>exact⟨0,0,r,Yaw _,rfl,rfl,by omega,X.out.1,X.out.2.1,X.out.2.2.1,by simp[val,X.out.2.2.2.1],X.out.2.2.2.2⟩
   case round=>
    obtain⟨j,Y,r,K,rfl,rfl,xi,Z⟩:=hrel;by_cases xn:j<m
    .obtain ⟨V, t, rfl, T, xl⟩:=hB.out (by rw [<-R.out]; omega)
     replace xl:=(Z.out.2.2.2.2.cell (p:=⟨V,t+j,none⟩) T).trans (xl j (by rw[<-R.out];omega));have xe:=Be xk.out j;have xf:=Be Z.out.2.1 (k+j);have P:wr.cell? ⟨w.heap.size,k+j,none⟩=some (.int .u32 (r.getD (k+j) 0:Nat)):=by rw[Z.out.2.2.1.cell,Ed (by rw[Z.out.1];omega)]
     have xd:=Z.out.2.2.1.frozen (k+j);generalize N:g.getD j 0=y at *;generalize u:r.getD (k+j) 0=z at *;replace N:=Af N;replace u:=Af u;unfold BB at xe xf;have J:(x:Int)*y<=18446744065119617025:=by have:=FN xc xe;omega
     have xh:(0:Int)<=(x:Int)*y:=Yco ZbG ZbG;go_wp2;go_quiet (fail);go_wp2;exact⟨(Z.out.drewN nq).step xn O N.out u.out xc xe xf xi ZcZ ZcZ,by simp[intOf];omega⟩
    .obtain rfl:j=m:=by omega
     have P:wr.cell? ⟨w.heap.size,k+j,none⟩=some (.int .u32 (r.getD (k+j) 0:Nat)):=by rw[Z.out.2.2.1.cell,Ed (by rw[Z.out.1];omega)]
     have xd:=Z.out.2.2.1.frozen (k+j);have xa:=Af (Z.out.close O R.out.symm F.out xi);go_wp2;exact⟨⟨k+1,_,O,by simp,xa⟩,by simp[intOf];omega⟩
  .obtain rfl:k=n:=by omega
   have p:Hid (Words wr (.slice (some ⟨w.heap.size,0,none⟩) (k+m) (k+m)) r):=by
    have:=CI (c:=k+m) X.out.2.2.1 X.out.2.1 (by rw[X.out.1];omega) ZbG;rw[X.out.1]at this;exact this
   have xa:Hid (val r=val a*val g):=by
    have C:=X.out.2.2.2.1;have er:r.take (k+m)=r:=Yar (by rw[X.out.1];omega);have ea:a.take k=a:=Yar Zct;rw[er,ea]at C;exact C
   go_wp2_with (go_at_call 287;refine(El _ _ _ p.out).mono ?_;rintro e M ⟨f,rfl,xb,Q⟩);go_ret;refine⟨f,rfl,?_,X.out.2.2.2.2.trans Q⟩;rw[Bo X.out.2.1,xa.out]at xb;exact xb
theorem TH(h:w.ownsRow n 335 1 z b (wv l).toList)(Z:BN l):Words w z l:=by
 obtain⟨q,A⟩:=h;have I:l.length=b:=by simpa[wv]using q
 rcases A with⟨rfl,rfl⟩ | ⟨g,cap,cur,rfl,_,hg,hc,hm,hsz,ht⟩
 .have:l=[]:=YaF I
  subst this;exact Words.nil _ _ _ ZbG
 .subst I
  refine⟨_,cap,rfl,hc,by simpa[maxLen]using hm,Z,λ_=>⟨g,0,cur,(0,0),rfl,hg,λi J=>?_⟩⟩;have:(cur.toList.take (l.length*1))[i]? = (wv l).toList[i]?:=by rw[ht]
  rw[YaK,Yan ZbG]at this;have y:=A4q J;rw[YaG];simpa[y]using this
theorem MH(w:World)(t f e:TypeId)(i:TypeInfo)(L:P.underlying t=some (.slice e))(J:P.info? e=some i)(c:Nat) :
  (Builtin.append_ #[t,t] f #[.slice none 0 0,.slice none 0 c]).run P w=.ok (.slice none 0 0) w:=by
 simp[Builtin.append_,run_underlying L,sizeOf,typeInfo,J,Builtin.lenOf,Builtin.firstCells]
theorem A0L(b o j:Nat):Addr.add ⟨b,o,none⟩ j=⟨b,o+j,none⟩:=by
 unfold Addr.add;split
 .rename_i h;subst h;rfl
 .rfl
theorem GI{rest:List Oper}(R:va.guard=none)(s x:Operand)(t:TypeId)
  (m:va.op=.call { callee:=.builtin .append,args:=#[s,x],argTypes:=#[t,t] }) (v u:Value) (Z:vj.eval s=v) (C:vj.eval x=u)
  (n:(Builtin.append_ #[t,t] va.type #[v,u]).run P w=.ok z p) (h:wpList P vZ vR rest (vj.put va.dst z) p):wpList P vZ vR (va::rest) vj w:=by
 refine wpList_plain R λK q=>?_;unfold Oper.wp execOp;exact ZgG
theorem Qn(h:Words w (.slice ut l.length n) l)(B:l.length<=35184372088832) :
  ∃G M,(Builtin.append_ #[107,107] 107 #[.slice none 0 0,.slice ut l.length n]).run prog w=.ok G M/\Words M G l/\Ext w M:=by
 obtain⟨i,J,X,a,e⟩:=info_parts (show(Tryz.prog.info? 335).map (λi=>(i.zero,i.size,i.bytes))=some (some (.int .u32 0),1,4)by kernel_rfl);have Z:=h.small;obtain⟨N,k,r,F,E,C⟩:=h.open_;injection r with q _ K
 subst q;subst K
 cases ut with
 |none=>
  have I:l.length=0:=by
   rcases Yax l.length with d | d
   .exact d
   .obtain ⟨b,o,V,_⟩:=C d;cases V
  have:l=[]:=YaF I;subst this;exact⟨_,_,MH w _ _ _ i underlying107 J n,Words.nil _ _ _ ZbG,Ext.refl _⟩
 |some Y=>
  have c:∀(j:Nat) (u:Value),(wv l).toList[j]? = some u->w.cell? (Y.add j)=some u:=by
   intro j u S
   have W:j<l.length:=by
    have:=(Yae.1 S).1;simpa[wv]using this
   obtain⟨b,o,V,_,O⟩:=C ZbG;have f:=Yag V;subst f;have A:=O j W;have y:=Ed W
   have L:u=.int .u32 (l.getD j 0:Nat):=by
    rw[Ycr,y]at S;exact(Yag S).symm
   rw[L,<-A,A0L]
  have p:∀u∈(wv l).toList,u.oneCell'=true:=by
   intro u S;have H:u∈l.map λx=>Value.int .u32 (x:Nat):=by simpa[wv]using S
   obtain⟨x,_,rfl⟩:=YaA.1 H;rfl
  obtain ⟨G, M, Q, P, T, _⟩ := run_append_own (P := prog) w w.heap.size 107 107 335 i (.int .u32 0) 1 4 underlying107 J X a e rfl ZbG
   (.slice none 0 0) 0 [] ⟨by simp,.inl ⟨rfl,rfl⟩⟩ Y l.length n (wv l).toList (by simp[wv]) c p Zjd ZbG (Yah _)
  refine⟨G,M,Q,?_,?_⟩
  .rw [Ycs]at P
   exact TH P Z
  .exact (Ext.refl w).trans ((Below.refl _ _).grown T (Yah _) (by simp[Value.ownBlock]))
theorem LX(v:Value)(l:List Nat)(w:World)(h:Words w v l)(q:l.length<=35184372088832) :
  Calls prog 317 #[v] w λe M=>∃b,e=.returned b/\Words M b l/\Ext w M:=by
 obtain⟨A,c,rfl,F,x,C⟩:=h.open_;obtain⟨b,M,n,B,Q⟩:=Qn h q;replace n:=Af n;clear C h;go_enter func317,ntmps317;go_wp2_with (at_builtin;refine GI rfl _ _ _ rfl _ _ rfl rfl n.out ?_);go_ret;exact⟨b,rfl,B,Q⟩
theorem Oz(m:Nat)(w:World)(q:m<18446744073709551616) :
  Calls prog 237 #[.int .u64 m] w λe M=>∃A,e=.returned A/\Words M A (Aw m)/\Ext w M:=by
 have B:Words (w.alloc (.cells (wv [m%BB,m/BB]) 335)) (.slice (some ⟨w.heap.size,0,none⟩) 2 2) [m%BB,m/BB]:=
  CI (l:=[m%BB,m/BB]) (c:=2) (Blk.new _ _ _) (λx C=>by
   simp at C;rcases C with rfl | rfl
   .exact YaV _ CP
   .exact Yby ZcZ) ZbV ZbG
 have r:Hid (val [m%BB,m/BB]=m):=by
  show m%BB+BB*(m/BB+BB*0)=m;exact ZiT
 have b:Hid ((w.alloc (.cells (wv [m%BB,m/BB]) 335))=w.alloc (.cells #[.int .u32 ((m:Int)%4294967296),.int .u32 ((m:Int)/4294967296)] 335)):=by
  simp[wv,BE,Hid]
 have j:=Af B;have p:=Af B.small;rw[b.out]at j;clear B;go_enter func237,ntmps237;go_wp2_with fail;refine(El _ _ _ j.out).mono ?_;rintro e M ⟨A,rfl,E,Q⟩;go_wp2;go_ret;refine⟨A,rfl,?_,((Ext.refl _).alloc _).trans Q⟩;rw[Bo p.out,r.out]at E;exact E
theorem Ur(a:Nat)(l:a<18446744073709551616):(BitVec.ofInt 64 (a:Int)).toNat=a:=by
 rw[YdS,Ycy];exact YaS l
theorem RS{q x:Nat}(k:q<4294967296)(C:x<4294967296):bits .or .u64 (q:Int) ((x:Int)*4294967296)=((q+x*4294967296:Nat):Int):=by
 have A:((x:Int)*4294967296)=((x*4294967296:Nat):Int):=by omega
 have B:q ||| (x*4294967296)=q+x*4294967296:=by
  have:=YcA (i:=32) (b:=q) ZbG x;rw[YdP,show(2:Nat)^32=4294967296 from rfl]at this;rw[Nat.or_comm];omega
 rw[A];show IntKind.u64.wrap ((BitVec.ofInt 64 (q:Int) ||| BitVec.ofInt 64 ((x*4294967296:Nat):Int)).toNat:Int)=_;rw[Yea,Ur q ZbG,Ur _ ZbG,IntKind.wrap_u64,B];omega
theorem TU(v:Value)(l:List Nat)(w:World)(h:Words w v l)(J:l.length<=2) :
  Calls prog 318 #[v] w λe M=>e=.returned (.int .u64 (val l:Nat))/\Ext w M:=by
 obtain⟨A,c,rfl,I,N,F⟩:=h.open_;have Z:=Af h.small;clear h;have S:=Af F;clear F;obtain⟨n,U⟩:∃n,n=l.length:=⟨_,rfl⟩;rw[<-U]at I J ⊢;replace U:=Af U;go_enter func318,ntmps318;go_wp2;go_loop [3,7] (λt i=>∃(k q:Nat),k<=n/\i=.int .i64 k/\t=.int .u64 q/\Hid (q=val (l.take k))) (λ_ i=>n-(intOf i).toNat)
 case atStart=>exact⟨0,0,Yaw _,rfl,rfl,rfl⟩
 case round=>
  obtain⟨k,q,E,rfl,rfl,L⟩:=hrel;by_cases O:k<n
  .obtain ⟨b, o, rfl, G, Q⟩:=S.out Zfb
   replace Q:=Q k Zct;have s:=Be Z.out k;have W:=Af (Bh l k);generalize F:l.getD k 0=x at *;replace F:=Af F;unfold BB at s;have f:k=0\/k=1:=by omega
   rcases f with rfl | rfl
   .obtain rfl:q=0:=by rw [L.out];rfl
    simp only[Ybi]at Q;go_wp2;refine⟨⟨1,x,by omega,rfl,?_,?_⟩,by simp[intOf];omega⟩
    .have B:=RS (q:=x) (x:=0) s ZbG
     have C:bits .or .u64 0 (x:Int)=bits .or .u64 (x:Int) 0:=by
      show IntKind.u64.wrap ((BitVec.ofInt 64 0 ||| BitVec.ofInt 64 (x:Int)).toNat:Int)=IntKind.u64.wrap ((BitVec.ofInt 64 (x:Int) ||| BitVec.ofInt 64 0).toNat:Int);rw[BitVec.or_comm]
     have K:bits .or .u64 (x:Int) 0=x:=by simpa using B
     rw[C,K]
    .have:=W.out
     rw[<-L.out]at this;simpa[Hid]using this.symm
   .have V:q<4294967296:=by
     rw[L.out];have B:=Bh l 0;have C:=Be Z.out 0;simp[val]at B;rw[B];simpa[BE]using C
    go_wp2;refine⟨⟨2,q+BB*x,by omega,rfl,?_,?_⟩,by simp[intOf];omega⟩
    .rw [RS V s,BE];congr 1;omega
    .have:=W.out
     rw[<-L.out,Nat.pow_one]at this;exact this.symm
  .obtain rfl:k=n:=by omega
   go_wp2;go_ret;exact⟨by rw[L.out,Yar Zct];rfl,Ext.refl _⟩
def Fx(a b:Nat):Int:=if a<b then -1 else if b<a then 1 else 0
theorem BR{x y:Nat}(h:x<=y):(Aw x).length<=(Aw y).length:=by
 induction y using Nat.strongRecOn generalizing x with
 |_ y v=>
  by_cases C:x=0
  .subst C;rw[BL];exact Yaw _
  .have N:y≠0:=by omega
   rw[Fh C,Fh N];simp only[Yay];have:=v (y/BB) (Ydr ZbG ZbL) (Nat.div_le_div_right (c:=BB) h);omega
theorem TV(E:BN l)(I:l.length=h.length)(B:n<l.length)(a:∀i,n<i->l.getD i 0=h.getD i 0)(O:l.getD n 0<h.getD n 0):val l<val h:=by
 have key:∀(j:Nat),n+1+j<=l.length->val (l.take (n+1+j))<val (h.take (n+1+j)):=by
  intro j
  induction j with
  |zero=>
   intro _;rw[Ybi,Bh,Bh]
   have q:val (l.take n)<BB^n:=by
    have:=Ej (l:=l.take n) λx C=>E x (Ybs C);rwa [YaO,Ybx (YbV B)]at this
   have A:BB^n*(l.getD n 0+1)<=BB^n*h.getD n 0:=Yas _ O;rw[YaE]at A;omega
  |succ j v=>
   intro W;have:=v ZbG;rw[<-YbT,Bh,Bh,a (n+1+j) ZbG];omega
 have:=key (l.length-(n+1)) ZbG;rw[show n+1+(l.length-(n+1))=l.length by omega,Yar (Yah _),Yar ZbG]at this;exact this
theorem A0r(I:l.length=h.length)(a:∀i,i<l.length->l.getD i 0=h.getD i 0):l=h:=by
 apply List.ext_getElem I;intro i q A;have:=a i q;simpa[q,A]using this
theorem Lm(h:(Aw n).length<(Aw b).length):Fx n b=-1:=by
 have:n<b:=by
  rcases YaD n b with q | q
  .exact q
  .have:=BR q;omega
 simp[Fx,this]
theorem Ln(h:(Aw b).length<(Aw n).length):Fx n b=1:=by
 have:b<n:=by
  rcases YaD b n with q | q
  .exact q
  .have:=BR q;omega
 have A:¬n<b:=by omega
 simp[Fx,this,A]
theorem SK{x y k:Nat}(I:(Aw x).length=(Aw y).length)(B:k<(Aw x).length)(a:∀i,k<i->(Aw x).getD i 0=(Aw y).getD i 0)(O:(Aw x).getD k 0<(Aw y).getD k 0):Fx x y=-1:=by
 have:=TV (BG x) I B a O;rw[AK,AK]at this;simp[Fx,this]
theorem SL{x y k:Nat}(I:(Aw x).length=(Aw y).length)(B:k<(Aw x).length)(a:∀i,k<i->(Aw x).getD i 0=(Aw y).getD i 0)(O:(Aw y).getD k 0<(Aw x).getD k 0):Fx x y=1:=by
 have:=TV (BG y) I.symm ZbG (λi J=>(a i J).symm) O;rw[AK,AK]at this;have A:¬x<y:=by omega
 simp[Fx,this,A]
theorem SM(I:(Aw n).length=(Aw b).length)(a:∀i,(Aw n).getD i 0=(Aw b).getD i 0):Fx n b=0:=by
 have:=A0r I λi _=>a i;have A:n=b:=by rw[<-AK n,<-AK b,this]
 simp[Fx,A]
theorem Jl(s Z:Value)(x y:Nat)(w:World)(l:Words w s (Aw x))(I:Words w Z (Aw y)) :
  Calls prog 284 #[s,Z] w λe M=>e=.returned (.int .i64 (Fx x y))/\Ext w M:=by
 obtain⟨A,c,rfl,J,r,G⟩:=l.open_;obtain⟨B,d,rfl,L,v,N⟩:=I.open_;clear l I;have W:=Af G;have f:=Af N;clear G N;obtain⟨n,U⟩:∃n,n=(Aw x).length:=⟨_,rfl⟩;obtain⟨m,P⟩:∃m,m=(Aw y).length:=⟨_,rfl⟩;rw[<-U]at J ⊢;rw[<-P]at L ⊢;replace U:=Af U;replace P:=Af P;rcases Ycm n m with O | heq | hgt
 .have S:((n:Int) != m)=true:=ZiB
  go_enter func284,ntmps284;go_wp2;exact Zic
 .subst heq
  have S:((n:Int) != n)=false:=by simp
  go_enter func284,ntmps284;go_wp2;go_loopw [5] (λi wr=>∃k:Nat,k<=n/\i=.int .i64 ((k:Int)-1)/\Hid (Ext w wr/\∀i,k<=i->(Aw x).getD i 0=(Aw y).getD i 0)) (λi _=>(intOf i+1).toNat)
  case atStart=>exact Zao
  case round=>
   obtain⟨k,F,rfl,Q⟩:=hrel;by_cases g:k=0
   .exact Zap
   .obtain ⟨q, rfl⟩:∃q, k=q+1:=⟨k-1, by omega⟩
    obtain⟨b,o,rfl,I,V⟩:=W.out Zct;replace V:=(Q.out.1.cell (p:=⟨b,o+q,none⟩) I).trans (V q Zct);obtain⟨z,t,rfl,T,p⟩:=f.out ZeE;replace p:=(Q.out.1.cell (p:=⟨z,t+q,none⟩) T).trans (p q ZeE);generalize h:(Aw x).getD q 0=X at *;generalize j:(Aw y).getD q 0=Y at *;replace h:=Af h;replace j:=Af j;have a:((q+1:Nat):Int)-1=q:=by omega
    rw[a];rcases Ycm X Y with O | heq | hgt
    .have u:((X:Int) != Y)=true:=ZiB
     go_wp2;go_quiet (fail);go_wp2;go_quiet (fail);go_wp2;go_ret;exact⟨by rw[SK (k:=q) ZdT Zct (λi K=>Q.out.2 i K) (by rw[h.out,j.out];exact O)];rfl,(Q.out.1.drewN _).drewN _⟩
    .subst heq
     have u:((X:Int) != X)=false:=by simp
     go_wp2;go_quiet (fail);go_wp2;refine⟨⟨q,by omega,rfl,Q.out.1.drewN _,λi K=>?_⟩,by simp[intOf]⟩;rcases YaD q i with C | C
     .exact Q.out.2 i C
     .obtain rfl:i=q:=by omega
      rw[h.out,j.out]
    .have u:((X:Int) != Y)=true:=ZiB
     have H:¬((X:Int)<Y):=by omega
     go_wp2;go_quiet (fail);go_wp2;go_quiet (fail);go_wp2;exact ZgV
 .have S:((n:Int) != m)=true:=ZiB
  go_enter func284,ntmps284;go_wp2;exact ZhW
def IsInt(w:World)(X K:Value)(z:Int):Prop:=X=.bool (decide (z<0))/\Words w K (Aw z.natAbs)
theorem IsInt.ext(h:IsInt w z u a)(q:Ext w p):IsInt p z u a:=⟨h.1,h.2.ext q⟩
def JB(z:Int)(w:World)(e:Ending)(M:World):Prop:=∃(b:Bool) (A:Option Addr) (n c:Nat),e=.returned (.agg #[.bool b,.slice A n c])/\IsInt M (.bool b) (.slice A n c) z/\Ext w M
theorem IsInt.set{X K:Value}{z:Int}(h:IsInt w X K z){p:Addr}(L:Ty w p.block t)(B:t≠335)(u:Value):IsInt (w.setCell p u) X K z:=⟨h.1,h.2.set L B u⟩
def Kb(neg:Bool)(n:Nat):Int:=if neg then -(n:Int)else n
theorem MG(neg:Bool)(n:Nat):(Kb neg n).natAbs=n:=by cases neg<;>simp[Kb]
theorem Vp(h:n≠0):decide (Kb o n<0)=o:=by cases o<;>simp[Kb]<;>omega
theorem JH(neg:Bool):Kb neg 0=0:=by cases neg<;>rfl
theorem A1S:Kb (!decide (a<0)) a.natAbs=-a:=by
 by_cases h:a<0<;>simp[Kb,h]<;>omega
theorem Nk{z:Int}:Kb (decide (z<0)) z.natAbs=z:=by
 by_cases h:z<0<;>simp[Kb,h]<;>omega
theorem IsInt.bool_eq(h:IsInt w (.bool o) z a):o=decide (a<0):=by
 have:=h.1;injection this
theorem IsInt.neg_eq(h:IsInt w (.bool o) z a):Kb (!o) a.natAbs=-a:=by rw[h.bool_eq];exact A1S
theorem Br:(Aw n).length=0↔n=0:=by
 constructor
 .intro h
  have:Aw n=[]:=YaF h;rw[<-AK n,this];rfl
 .rintro rfl;rw[BL];rfl
theorem Ext.cells{W g:World}(E:Ext W g):(∀b o,b<W.heap.size->g.cell? ⟨b,o,none⟩=W.cell? ⟨b,o,none⟩)/\(∀b o,b<W.heap.size->g.frozen? ⟨b,o,none⟩=W.frozen? ⟨b,o,none⟩):=
 ⟨λb o h=>E.cell (p:=⟨b,o,none⟩) h,λb o h=>E.frozen (p:=⟨b,o,none⟩) h⟩
theorem EC(neg:Bool)(v:Value)(l:List Nat)(w:World)(h:Words w v l) :
  Calls prog 236 #[.bool neg,v] w λe M=>JB (Kb neg (val l)) w e M:=by
 have Z:=Af h.small;have H:=Af h;clear h;go_enter func236,ntmps236;go_wp2_with fail;refine(El _ _ _ (H.out.ext ((Ext.refl _).alloc _))).mono ?_;rintro e g ⟨b,rfl,m,Q⟩;rw[Bo Z.out]at m;obtain⟨A,c,rfl,F,x,C⟩:=m.open_;replace C:=Af C;obtain⟨N,X⟩:=Q.cells;by_cases d:(Aw (val l)).length=0
 .have p:=Af (Br.1 d)
  generalize q:(Aw (val l)).length=n at *;subst d;replace q:=Af q;go_wp2;refine bodyPost_ret (v:=.agg #[.bool false,.slice none 0 0]) Zfh rfl ⟨_,_,_,_,rfl,⟨?_,?_⟩,?_⟩
  .rw [p.out,JH];rfl
  .rw [p.out,JH]
   show Words _ _ (Aw 0);rw[BL];exact Words.nil _ _ _ ZbG
  .exact Zjx
 .have p:=Af (λe=>d (Br.2 e))
  have B:(((Aw (val l)).length:Int)==0)=false:=by simpa using d
  go_wp2;refine bodyPost_ret (v:=.agg #[.bool neg,.slice A (Aw (val l)).length c]) Zfh rfl ⟨_,_,_,_,rfl,⟨?_,?_⟩,?_⟩
  .rw [Vp p.out]
  .rw [MG]
   have L:=(Ty.new w #[Value.bool false,Value.slice none 0 0] 109).ext Q;exact(m.set L ZbL _).set (L.set _ _) ZbL _
  .exact Zjx
theorem TS(z:Int)(w:World)(d:0<=z)(x:z<18446744073709551616) :
  Calls prog 237 #[.int .u64 z] w λe M=>∃b,e=.returned b/\Words M b (Aw z.toNat)/\Ext w M:=by
 obtain⟨m,rfl⟩:=YbH d;rw[YdF];exact Oz m w ZbG
theorem A9p(n:Int)(w:World)(d:-9223372036854775808<=n)(q:n<=9223372036854775807) :
  Calls prog 139 #[.int .i64 n] w λe M=>JB n w e M:=by
 by_cases h:n<0
 .have A:decide (n<0)=true:=by simpa using h
  have b:Hid (IntKind.u64.wrap (-(IntKind.u64.wrap n))=-n):=by
   simp only[IntKind.wrap_u64,Hid];omega
  go_enter func139,ntmps139;go_wp2_with fail;rw[b.out];refine(TS _ _ ZbG ZbG).mono ?_;rintro e g ⟨B,rfl,C,Q⟩;go_wp2_with fail;refine(EC _ _ _ _ C).mono ?_;rintro e F ⟨m,l,t,Y,rfl,W,P⟩;replace P:=Q.trans P;obtain⟨N,X⟩:=P.cells;replace W:=Af W;replace P:=Af P;clear Q C;go_wp2;refine bodyPost_ret (v:=.agg #[.bool m,.slice l t Y]) Zff rfl ⟨_,_,_,_,rfl,?_,?_⟩
  .exact Zaq
  .exact Zjy
 .have A:decide (n<0)=false:=by simpa using h
  go_enter func139,ntmps139;go_wp2_with fail;refine(TS _ _ ZbG ZbG).mono ?_;rintro e g ⟨B,rfl,C,Q⟩;go_wp2_with fail;refine(EC _ _ _ _ C).mono ?_;rintro e F ⟨m,l,t,Y,rfl,W,P⟩;replace P:=Q.trans P;obtain⟨N,X⟩:=P.cells;replace W:=Af W;replace P:=Af P;clear Q C;go_wp2;refine bodyPost_ret (v:=.agg #[.bool m,.slice l t Y]) Zff rfl ⟨_,_,_,_,rfl,?_,?_⟩
  .exact Zar
  .exact Zjy
theorem A4O(b:Bool)(A:Option Addr)(n c:Nat)(z:Int)(w:World)(h:IsInt w (.bool b) (.slice A n c) z) :
  Calls prog 235 #[.agg #[.bool b,.slice A n c]] w λe M=>e=.returned (.int .i64 z.sign)/\Ext w M:=by
 obtain⟨q,B⟩:=h;obtain⟨K,k,r,F,x,C⟩:=B.open_;injection r with E y G
 subst E;subst G;clear C B;injection q with q
 by_cases d:z=0
 .subst d
  have l:n=0:=by rw[y];show(Aw 0).length=0;rw[BL];rfl
  subst l;clear q y;go_enter func235,ntmps235;go_wp2;go_ret;exact⟨rfl,(Ext.refl _).alloc _⟩
 .have l:n≠0:=by
   rw[y];intro e;have:=Br.1 e;omega
  have I:((n:Int)==0)=false:=by simpa using l
  replace y:=Af y
  cases b with
  |true=>
   have u:z<0:=by simpa using q
   clear q;go_enter func235,ntmps235;go_wp2;go_ret;exact⟨by rw[Ybj u];rfl,(Ext.refl _).alloc _⟩
  |false=>
   have u:0<z:=by
    have:¬z<0:=Zjz
    omega
   clear q;go_enter func235,ntmps235;go_wp2;go_ret;exact⟨by rw[Ybq u];rfl,(Ext.refl _).alloc _⟩
theorem A7u(b:Bool)(A:Option Addr)(n c:Nat)(z:Int)(w:World)(h:IsInt w (.bool b) (.slice A n c) z)(G:(Aw z.natAbs).length<=4398046511104) :
  Calls prog 292 #[.agg #[.bool b,.slice A n c]] w (JB (-z) w):=by
 replace h:=Af h;replace G:=Af G;go_enter func292,ntmps292;go_wp2
 refine wp_region_v ZbK [[], [(3, 0)], [(4, 1)], [], [(6, 3)], [(7, 4)], [(5, 2), (8, 5)]] [[], [0], [0, 1], [], [3], [3, 4], [0, 1, 2, 3, 4, 5]]
  [λv _=>v=.pointer (some ⟨w.heap.size,0,none⟩),λv _=>v=.bool b,λv _=>v=.bool (!b),λv _=>v=.pointer (some ⟨w.heap.size,1,none⟩),λv _=>v=.slice A n c,λv M=>Words M v (Aw z.natAbs),λv M=>∃b A n c,v=.agg #[.bool b,.slice A n c]/\IsInt M (.bool b) (.slice A n c) (-z)]
  rfl ZbK ZbK ?stab ?steps ?fin
 case stab=>exact .cons (Stab.eq _) (.cons (Stab.eq _) (.cons (Stab.eq _) (.cons (Stab.eq _) (.cons (Stab.eq _) (.cons (λ_ _ _ a h=>h.ext a) (.cons (λ_ _ _ a ⟨b,A,n,c,q,B⟩=>⟨b,A,n,c,q,B.ext a⟩) .nil))))))
 case steps=>
  refine .cons ?s0 (.cons ?s1 (.cons ?s2 (.cons ?s3 (.cons ?s4 (.cons ?s5 (.cons ?s6 .nil))))))
  case s0=>
   intro M i Q C l F p;exact ZhE
  case s1=>
   intro M i Q C l F p;have J:i (.tmp 3)=.pointer (some ⟨w.heap.size,0,none⟩):=C.1 _ rfl;have X:M.cell? ⟨w.heap.size,0,none⟩=some (.bool b):=Q.cellv ZbV;exact AB (by simp[execOp,J,X,go_sem]) rfl
  case s2=>
   intro M i Q C l F p;have Y:i (.tmp 4)=.bool b:=C.1 _ rfl;exact AB ZeV rfl
  case s3=>
   intro M i Q C l F p;exact ZhE
  case s4=>
   intro M i Q C l F p;have j:i (.tmp 6)=.pointer (some ⟨w.heap.size,1,none⟩):=C.1 _ rfl;have X:M.cell? ⟨w.heap.size,1,none⟩=some (.slice A n c):=Q.cellv ZbV;exact AB (by simp[execOp,j,X,go_sem]) rfl
  case s5=>
   intro M i Q C l F p;have r:i (.tmp 7)=.slice A n c:=C.1 _ rfl;refine Cz (by simp[execOp,resolve,invoke,r,p,go_sem]) (LX _ _ _ (h.out.2.ext ((((Ext.refl _).alloc _).alloc _).drew.trans Q)) (by have:=G.out;omega)) ?_;rintro e I ⟨m,rfl,K,N⟩;exact⟨m,rfl,N,K⟩
  case s6=>
   intro M i Q C l F p;have V:i (.tmp 5)=.bool (!b):=C.1 _ rfl;have u:Words M (i (.tmp 8)) (Aw z.natAbs):=C.2.1 _ rfl;refine Cz (by simp[execOp,resolve,invoke,V,p,go_sem]) (EC (!b) _ _ _ u) ?_;rintro e I ⟨k,o,f,S,rfl,H,N⟩;exact⟨_,rfl,N,k,o,f,S,rfl,by rw[AK]at H;rw[<-h.out.neg_eq];exact H⟩
 case fin=>
  intro g M Q hF;obtain⟨Z,s,W,t,y,x⟩:=hF 6 _ rfl;simp only[Yay,Ybk,Nat.reduceAdd,Ybf,YaP,Ybe,YbR,Fw,Act.put,YaW,Ybw,YbD,y];clear hF y;replace x:=Af x;obtain⟨O,d⟩:=Q.cells;replace Q:=Af Q;go_wp2;refine bodyPost_ret (v:=.agg #[.bool Z,.slice s W t]) (by simp[results,Tryz.results292,go_sem,O]) rfl ⟨_,_,_,_,rfl,?_,?_⟩
  .have L:Ty M (w.heap.size+1) 109:=by simpa using (Ty.new (w.alloc (.cells #[Value.bool b, Value.slice A n c] 109)) _ _).ext ((Ext.refl _).drew.trans Q.out)
   exact(x.out.set L ZbL _).set (L.set _ _) ZbL _
  .exact (((((Ext.refl _).alloc _).alloc _).drew.trans Q.out).set ZbV _).set ZbV _
theorem Vq(x y:Int):Kb (!(decide (x<0)==decide (y<0))) (x.natAbs*y.natAbs)=x*y:=by
 have h:=Nk (z:=x);have V:=Nk (z:=y);generalize decide (x<0)=p at *;generalize decide (y<0)=q at *;generalize x.natAbs=m at *;generalize y.natAbs=n at *;subst h;subst V;cases p<;>cases q<;>simp[Kb,Yds,Int.neg_mul,YeK]
theorem A7x(b z:Bool)(A O:Option Addr)(n c E k:Nat)(x y:Int)(w:World)(h:IsInt w (.bool b) (.slice A n c) x)(V:IsInt w (.bool z) (.slice O E k) y)(G:(Aw x.natAbs).length<=4398046511104)(m:(Aw y.natAbs).length<=4398046511104) :
  Calls prog 286 #[.agg #[.bool b,.slice A n c],.agg #[.bool z,.slice O E k]] w (JB (x*y) w):=by
 replace h:=Af h;replace V:=Af V;replace G:=Af G;replace m:=Af m;go_enter func286,ntmps286;go_wp2
 refine wp_region_v ZbK [[], [(5, 0)], [], [(7, 2)], [(6, 1), (8, 3)], [], [(10, 5)], [], [(12, 7)], [(11, 6), (13, 8)], [(9, 4), (14, 9)]] [[], [0], [], [2], [0, 1, 2, 3], [], [5], [], [7], [5, 6, 7, 8], [0, 1, 2, 3, 4, 5, 6, 7, 8, 9]]
  [λv _=>v=.pointer (some ⟨w.heap.size,0,none⟩),λv _=>v=.bool b,λv _=>v=.pointer (some ⟨w.heap.size+1,0,none⟩),λv _=>v=.bool z,λv _=>v=.bool (!(b==z)),λv _=>v=.pointer (some ⟨w.heap.size,1,none⟩),λv _=>v=.slice A n c,λv _=>v=.pointer (some ⟨w.heap.size+1,1,none⟩),λv _=>v=.slice O E k,λv M=>Words M v (Aw (val (Aw x.natAbs)*val (Aw y.natAbs))),λv M=>∃b A n c,v=.agg #[.bool b,.slice A n c]/\IsInt M (.bool b) (.slice A n c) (x*y)]
  rfl ZbK ZbK ?stab ?steps ?fin
 case stab=>exact ZjA
 case steps=>
  refine .cons ?s0 (.cons ?s1 (.cons ?s2 (.cons ?s3 (.cons ?s4 (.cons ?s5 (.cons ?s6 (.cons ?s7 (.cons ?s8 (.cons ?s9 (.cons ?s10 .nil))))))))))
  case s0=>
   exact Zin
  case s1=>
   intro M i Q C l F p;exact ZhQ
  case s2=>
   exact Zio
  case s3=>
   intro M i Q C l F p;exact ZhL
  case s4=>
   intro M i Q C l F p;have s:i (.tmp 6)=.bool b:=C.1 _ rfl;exact ZhO
  case s5=>
   exact Zin
  case s6=>
   intro M i Q C l F p;exact ZhM
  case s7=>
   exact Zio
  case s8=>
   intro M i Q C l F p;exact ZhH
  case s9=>
   intro M i Q C l F p;have xc:i (.tmp 11)=.slice A n c:=C.1 _ rfl;have xe:i (.tmp 13)=.slice O E k:=C.2.1 _ rfl;refine Cz ZeX (XI _ _ _ _ _ (h.out.2.ext (((((Ext.refl _).alloc _).alloc _).alloc _).drew.trans Q)) (V.out.2.ext (((((Ext.refl _).alloc _).alloc _).alloc _).drew.trans Q)) G.out m.out) ?_;rintro e J ⟨u,rfl,N,S⟩;exact⟨u,rfl,S,N⟩
  case s10=>
   intro M i Q C l F p;have e9:i (.tmp 9)=.bool (!(b==z)):=C.1 _ rfl;have xf:=C.2.1 _ rfl;refine Cz Zfc (EC (!(b==z)) _ _ _ xf) ?_;exact ZgS
 case fin=>
  intro g M Q hF;obtain⟨j,R,d,T,I,r⟩:=hF 10 _ rfl;simp only[Yay,Ybk,Nat.reduceAdd,Ybf,YaP,Ybe,YbR,Fw,Act.put,YaW,Ybw,YbD,I];clear hF I;replace r:=Af r;obtain⟨W,o⟩:=Q.cells;replace Q:=Af Q;go_wp2;refine bodyPost_ret (v:=.agg #[.bool j,.slice R d T]) (by simp[results,Tryz.results286,go_sem,W]) rfl ⟨_,_,_,_,rfl,?_,?_⟩
  .exact Zas
  .exact ZjB
theorem Vr(h:decide (a<0)=decide (j<0)):Kb (decide (a<0)) (a.natAbs+j.natAbs)=a+j:=by
 by_cases C:a<0<;>by_cases N:j<0<;>simp[C,N]at h<;>simp[Kb,C]<;>omega
theorem A03(h:¬decide (a<0)=decide (j<0))(k:j.natAbs<=a.natAbs):Kb (decide (a<0)) (a.natAbs-j.natAbs)=a+j:=by
 by_cases C:a<0<;>by_cases N:j<0<;>simp[C,N]at h<;>simp[Kb,C]<;>omega
theorem A02(h:¬decide (a<0)=decide (j<0))(k:a.natAbs<=j.natAbs):Kb (decide (j<0)) (j.natAbs-a.natAbs)=a+j:=by
 by_cases C:a<0<;>by_cases N:j<0<;>simp[C,N]at h<;>simp[Kb,N]<;>omega
theorem FQ(v:Value)(l:List Nat)(w:World)(h:Words w v l) :
  Calls prog 288 #[v] w λe M=>∃L,e=.returned L/\Words M L (Em l)/\Ext w M:=by
 obtain⟨A,c,rfl,F,I,C⟩:=h.open_;have H:=Af h;have Z:=Af h.small;clear h;have Q:=Af C;clear C;obtain⟨n,G⟩:∃n,n=l.length:=⟨_,rfl⟩;rw[<-G]at F ⊢;have m:=Af G;clear G;go_enter func288,ntmps288;go_wp2;go_loop [3] (λt=>∃k:Nat,k<=n/\t=.int .i64 k/\Hid (Em l=Em (l.take k))) (λt=>(intOf t).toNat)
 case atStart=>exact Zjw
 case round=>
  exact Zan
theorem Iq(neg:Bool)(v:Value)(l:List Nat)(w:World)(h:Words w v l) :
  Calls prog 239 #[.bool neg,v] w λe M=>JB (Kb neg (val l)) w e M:=by
 have Z:=Af h.small;have H:=Af h;clear h;go_enter func239,ntmps239;go_wp2_with fail;refine(FQ _ _ _ (H.out.ext ((Ext.refl _).alloc _))).mono ?_;rintro e g ⟨b,rfl,m,Q⟩;rw[Bo Z.out]at m;obtain⟨A,c,rfl,F,x,C⟩:=m.open_;replace C:=Af C;obtain⟨N,X⟩:=Q.cells;by_cases d:(Aw (val l)).length=0
 .have p:=Af (Br.1 d)
  generalize B:(Aw (val l)).length=n at *;subst d;replace B:=Af B;have q:Hid (Aw (val l)=[]):=by rw[p.out];exact BL
  rw[q.out]at m;replace m:=Af m
  cases neg with
  |false=>
   exact Zat
  |true=>
   exact Zat
 .have p:=Af (λe=>d (Br.2 e))
  have E:decide ((0:Int)<((Aw (val l)).length:Int))=true:=ZiB
  have s:0<(Aw (val l)).length:=by omega
  replace m:=Af m;generalize B:(Aw (val l)).length=n at *;replace B:=Af B
  cases neg with
  |false=>
   go_wp2;refine bodyPost_ret (v:=.agg #[.bool false,.slice A n c]) ZdZ rfl ⟨_,_,_,_,rfl,⟨?_,?_⟩,?_⟩
   .rw [Vp p.out]
   .exact Zau
   .exact Zjx
  |true=>
   go_wp2;refine bodyPost_ret (v:=.agg #[.bool true,.slice A n c]) ZdZ rfl ⟨_,_,_,_,rfl,⟨?_,?_⟩,?_⟩
   .rw [Vp p.out]
   .exact Zau
   .exact Zjx
theorem A3D(v:Value)(l:List Nat)(i:Nat)(w:World)(h:Words w v l) :
  Calls prog 309 #[v,.int .i64 i] w λe M=>e=.returned (.int .u64 (l.getD i 0:Nat))/\w=M:=by
 obtain⟨A,c,rfl,F,B,C⟩:=h.open_;have Z:=Be h.small i;by_cases J:i<l.length
 .obtain ⟨b, o, rfl, E, N⟩:=C ZbG
  replace N:=N i J;clear C h;generalize l.getD i 0=x at *;generalize l.length=n at *;unfold BB at Z;have q:decide ((i:Int)<n)=true:=by simpa using J
  go_enter func309,ntmps309;go_wp2;go_ret;exact⟨rfl,rfl⟩
 .have d:Hid (l.getD i 0=0):=by simp [show l.length<=i by omega, Hid]
  clear C h Z;generalize l.length=n at *;have q:decide ((i:Int)<n)=false:=ZiB
  go_enter func309,ntmps309;go_wp2;go_ret;exact⟨by rw[d.out];rfl,rfl⟩
theorem Ii(v:Value)(l:List Nat)(i x:Nat)(w:World)(h:Words w v l)(C:l.getD i 0=x) :
  Calls prog 309 #[v,.int .i64 i] w λe M=>e=.returned (.int .u64 (x:Nat))/\w=M:=by
 subst C;exact A3D v l i w h
theorem IQ(m:Nat)(w:World)(q:m<18446744073709551616) :
  Calls prog 240 #[.int .u64 m] w λe M=>∃A,e=.returned A/\Words M A (Aw m)/\Ext w M:=by
 have B:Words (w.alloc (.cells (wv [m%BB,m/BB]) 335)) (.slice (some ⟨w.heap.size,0,none⟩) 2 2) [m%BB,m/BB]:=
  CI (l:=[m%BB,m/BB]) (c:=2) (Blk.new _ _ _) (λx C=>by
   simp at C;rcases C with rfl | rfl
   .exact YaV _ CP
   .exact Yby ZcZ) ZbV ZbG
 have r:Hid (val [m%BB,m/BB]=m):=by
  show m%BB+BB*(m/BB+BB*0)=m;exact ZiT
 have b:Hid ((w.alloc (.cells (wv [m%BB,m/BB]) 335))=w.alloc (.cells #[.int .u32 ((m:Int)%4294967296),.int .u32 ((m:Int)/4294967296)] 335)):=by
  simp[wv,BE,Hid]
 have j:=Af B;have p:=Af B.small;rw[b.out]at j;clear B;go_enter func240,ntmps240;go_wp2_with fail;refine(FQ _ _ _ j.out).mono ?_;rintro e M ⟨A,rfl,E,Q⟩;go_wp2;go_ret;refine⟨A,rfl,?_,((Ext.refl _).alloc _).trans Q⟩;rw[Bo p.out,r.out]at E;exact E
def AddRel(w wr:World)(Z q r:List Nat)(n k Q:Nat):Prop:=
 r.length=n/\BN r/\Blk wr w.heap.size 335 (wv r)/\val (r.take k)+BB^k*Q=val (Z.take k)+val (q.take k)/\Ext w wr
theorem AddRel.step{Z L r:List Nat}{n k Q x y:Nat}(h:AddRel w p Z L r n k Q)(B:k<n)(C:Z.getD k 0=x)(N:L.getD k 0=y)(s:x<4294967296)(d:y<4294967296)(F:Q<=1){u z:Int}(S:u=((x+Q+y)%BB:Nat))(G:z=((x+Q+y)/BB:Nat)) :
  ∃(M J:Nat) (a:List Nat),M<=n/\Value.int .i64 ((k:Int)+1)=.int .i64 M/\Value.int .u64 z=.int .u64 J/\J<=1/\Hid (AddRel w (p.setCell ⟨w.heap.size,k,none⟩ (.int .u32 u)) Z L a n M J):=by
 obtain⟨q,A,K,Y,E⟩:=h;obtain⟨b,I⟩:=A2P ZbG C N (by rw[BE];exact s) (by rw[BE];exact d) F Y;refine⟨k+1,(x+Q+y)/BB,r.set k ((x+Q+y)%BB),B,by simp,by rw[G],I,by simpa using q,Do A k (YaV _ CP),?_,b,?_⟩
 .rw [S,<-Jt]
  exact K.set k _
 .exact Below.setCell E (Yah _) _
theorem AddRel.close{Z E r:List Nat}(h:AddRel w p Z E r n n b)(B:Z.length<n)(x:E.length<n)(hA:BN Z)(m:BN E):val r=val Z+val E:=by
 obtain⟨q,A,K,Y,C⟩:=h;rw[Yar (show Z.length<=n by omega),Yar (show E.length<=n by omega),Yar (show r.length<=n by omega)]at Y;have F:val Z<BB^(n-1):=Yaq (Ej hA) (Ybn CP ZbG);have f:val E<BB^(n-1):=Yaq (Ej m) (Ybn CP ZbG);have e:BB^n=BB*BB^(n-1):=by rw[<-Nat.pow_succ'];exact Zhe
 have y:2*BB^(n-1)<=BB*BB^(n-1):=YaC _ ZbL;rcases Yax b with d | d
 .subst d;omega
 .have:BB^n*1<=BB^n*b:=Yas _ d
  omega
theorem A0R(s Y:Value)(Z L:List Nat)(w:World)(l:Words w s Z)(E:Words w Y L)(h:Z.length<=4398046511104)(I:L.length<=4398046511104) :
  Calls prog 275 #[s,Y] w λe M=>∃b,e=.returned b/\Words M b (Aw (val Z+val L))/\Ext w M:=by
 obtain⟨A,c,rfl,F,R,C⟩:=l.open_;obtain⟨B,d,rfl,G,xc,N⟩:=E.open_;have Ha:=Af l;have Hb:=Af E;clear l E C N;have H:=Af Ha.out.small;have z:=Af Hb.out.small;have xe:=H;generalize U:Z.length=n at *;generalize V:L.length=m at *;replace U:=Af U;replace V:=Af V;clear xe;rcases YaD n m with xd | xd
 .have p:n<=m:=by omega
  have xa:m<=m:=by omega
  have v:=λW=>CB (m+1) ZbG .i64 .i64 W;simp only[Ycq,Yeb]at v;go_enter func275,ntmps275;go_wp2;go_loopw [7,8] (λj i wr=>∃(k K:Nat) (r:List Nat),k<=m+1/\i=.int .i64 k/\j=.int .u64 K/\K<=1/\Hid (AddRel w wr Z L r (m+1) k K)) (λ_ i _=>m+1-(intOf i).toNat)
  case atStart=>exact⟨0,0,List.replicate (m+1) 0,Yaw _,rfl,rfl,by omega,⟨by simp,Cx _,Blk.new _ _ _,by simp[val],(Ext.refl _).alloc _⟩⟩
  case round=>
   obtain⟨k,K,r,q,rfl,rfl,u,J⟩:=hrel;by_cases O:k<m+1
   .have xb:decide ((k:Int)<(m:Int)+1)=true:=ZiB
    exact Zav
   .obtain rfl:k=m+1:=by omega
    have xb:decide (((m+1:Nat):Int)<(m:Int)+1)=false:=by simp
    have X:=Af (J.out.close (by rw[U.out];omega) (by rw[V.out];omega) H.out z.out)
    have S:Hid (Words wr (.slice (some ⟨w.heap.size,0,none⟩) (m+1) (m+1)) r):=by
     have:=CI (c:=m+1) J.out.2.2.1 J.out.2.1 Zfn ZbG;rw[J.out.1]at this;exact this
    go_wp2_with (go_at_call 288;refine(FQ _ _ _ S.out).mono ?_;rintro e M ⟨b,rfl,a,Q⟩);go_ret;refine⟨b,rfl,?_,J.out.2.2.2.2.trans Q⟩;rw[Bo J.out.2.1,X.out]at a;exact a
 .have p:n<=n:=by omega
  have xa:m<=n:=by omega
  have T:¬n<m:=by omega
  have v:=λW=>CB (n+1) ZbG .i64 .i64 W;simp only[Ycq,Yeb]at v;go_enter func275,ntmps275;go_wp2;go_loopw [7,8] (λj i wr=>∃(k K:Nat) (r:List Nat),k<=n+1/\i=.int .i64 k/\j=.int .u64 K/\K<=1/\Hid (AddRel w wr Z L r (n+1) k K)) (λ_ i _=>n+1-(intOf i).toNat)
  case atStart=>exact⟨0,0,List.replicate (n+1) 0,Yaw _,rfl,rfl,by omega,⟨by simp,Cx _,Blk.new _ _ _,by simp[val],(Ext.refl _).alloc _⟩⟩
  case round=>
   obtain⟨k,K,r,q,rfl,rfl,u,J⟩:=hrel;by_cases O:k<n+1
   .have xb:decide ((k:Int)<(n:Int)+1)=true:=ZiB
    exact Zav
   .obtain rfl:k=n+1:=by omega
    have xb:decide (((n+1:Nat):Int)<(n:Int)+1)=false:=by simp
    have X:=Af (J.out.close (by rw[U.out];omega) (by rw[V.out];omega) H.out z.out)
    have S:Hid (Words wr (.slice (some ⟨w.heap.size,0,none⟩) (n+1) (n+1)) r):=by
     have:=CI (c:=n+1) J.out.2.2.1 J.out.2.1 Zfn ZbG;rw[J.out.1]at this;exact this
    go_wp2_with (go_at_call 288;refine(FQ _ _ _ S.out).mono ?_;rintro e M ⟨b,rfl,a,Q⟩);go_ret;refine⟨b,rfl,?_,J.out.2.2.2.2.trans Q⟩;rw[Bo J.out.2.1,X.out]at a;exact a
end
