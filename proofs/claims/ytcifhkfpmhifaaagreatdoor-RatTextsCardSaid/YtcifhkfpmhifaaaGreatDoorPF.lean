/- Part F of the proof: lemmas for the walks of the given functions. No statement of its own. -/
import Derived.Test.YtcifhkfpmhifaaaGreatDoorPE
set_option linter.unusedVariables false
set_option linter.unusedSimpArgs false
set_option linter.deprecated false
set_option maxRecDepth 100000
set_option maxHeartbeats 4000000
namespace Go.Proofs.YtcifhkfpmhifaaaGreatDoor.N
open Go Go.Proofs.YtcifhkfpmhifaaaGreatDoor.SH Go.Proofs.YtcifhkfpmhifaaaGreatDoor.NumA
open Go.Proofs.Tryz renaming call11 → cl11,call13 → cl13,call16 → cl16,call17 → cl17,call19 → cl19,call22 → cl22,call24 → cl24,call26 → cl26,call28 → cl28,call30 → cl30,call31 → cl31,call33 → cl33,call35 → cl35,call37 → cl37,call40 → cl40,call42 → cl42,call45 → cl45,call46 → cl46,call49 → cl49,call50 → cl50,call52 → cl52,isAgg24 → ag24,isAgg26 → ag26,sizeOf24 → sz24,sizeOf26 → sz26,typeInfo26 → ti26,underlying47 → un47,underlying48 → un48,zeroValue24 → zv24,zeroValue26 → zv26
theorem qw_sm {a : Rat} (h : (decide (a.num.natAbs < 4294967296) && decide (a.den < 4294967296)) = true) : qw a ≤ 1:=by
 rw [Bool.and_eq_true,decide_eq_true_eq,decide_eq_true_eq] at h
 have h1 : nw a.num ≤ 1:=nw_le (by rw [Int.pow_succ,Int.pow_zero]; omega)
 have h2 : nw (a.den : Int) ≤ 1:=nw_le (by rw [Int.pow_succ,Int.pow_zero]; omega)
 unfold qw; omega
theorem qw_sm9 {a : Rat} (h : (decide (a.num.natAbs < 4294967296) && decide (a.den < 4294967296)) = true) : qw a < 1000000000:=Nat.lt_of_le_of_lt (qw_sm h) (by decide)
def kq (n d : Int) : Rat:=Rat.divInt n d
theorem k_of (n d : Int) (h : (decide (-9223372036854775808 ≤ n) && decide (n < 9223372036854775808) && decide (-9223372036854775808 ≤ d) && decide (d < 9223372036854775808) && decide (d ≠ 0)) = true) : Says E 49 [vZ n,vZ d] (pQ (kq n d)):=by
 simp only [Bool.and_eq_true,decide_eq_true_eq] at h
 exact lof_says n d h.1.1.1.1 h.1.1.1.2 h.1.1.2 h.1.2 h.2
theorem k_same {a b : Rat} (ha : qw a < 1000000000) (hb : qw b < 1000000000) (h : a = b) : Says E 16 [pQ a,pQ b] (bZ true):=by
 have:=rqsame_says a b ha hb
 rwa [decide_eq_true h] at this
theorem mkE_z (n d : Int) : mkE (zP n) (zP d) = if d = 0 then 5 else 0:=by
 rw [mkE,if_pos ⟨canon_digs _,canon_digs _⟩]
 simp only [sg_of]
theorem mkR_z {n d : Int} (h : d ≠ 0) : mkR (zP n) (zP d) = RQ.of (Rat.divInt n d):=by
 rw [mkR,mkE_z,if_neg h,if_pos rfl]
 simp only [sg_of]
theorem k_zsame (a : Int) (h : nw a < 10000000000000) : Says E 30 [pZ a,pZ a] (bZ true):=by
 have:=rsame_says (decide (a < 0)) (decide (a < 0)) (digs a.natAbs) (digs a.natAbs) h h
 rwa [show decide (decide (a < 0) = decide (a < 0) ∧ digs a.natAbs = digs a.natAbs) = true from decide_eq_true ⟨rfl,rfl⟩] at this
theorem nw_sm {a : Int} (h : a.natAbs < 4294967296) : nw a < 10000000000000:=Nat.lt_of_le_of_lt (nw_le (k:=1) (by rw [Int.pow_succ,Int.pow_zero]; omega)) (by decide)
theorem k_off : Says E 11 [vZ 6,vZ (-4)] (.tup [pQ (kq 6 (-4)),vZ 0]):=by
 have:=qof_says 6 (-4) (by decide) (by decide) (by decide) (by decide)
 rw [mkE_z,mkR_z (by decide)] at this
 exact this
theorem k_make : Says E 13 [pZ 6,pZ (-4)] (.tup [pQ (kq 6 (-4)),vZ 0]):=make_z 6 (-4) (by decide) (Nat.lt_of_le_of_lt (nw_le (k:=1) (by decide)) (by decide)) (Nat.lt_of_le_of_lt (nw_le (k:=1) (by decide)) (by decide))
theorem k_div : Says E 22 [pQ (kq 1 2),pQ (kq (-1) 4)] (.tup [pQ (kq 1 2 / kq (-1) 4),vZ 0]):=qdiv_says _ _ (qw_sm9 (by decide +kernel)) (qw_sm9 (by decide +kernel)) (by decide +kernel)
theorem k_pow : Says E 40 [pQ (kq (-2) 3),vZ (-3)] (.tup [pQ (kq (-2) 3 ^ (-3 : Int)),vZ 0]):=by
 have:=qpow_says (kq (-2) 3) (-3) (Nat.lt_of_le_of_lt (qw_sm (by decide +kernel)) (by decide)) (by decide) (by decide)
 have e : qE (kq (-2) 3) (-3) = 0:=by decide +kernel
 rw [qP,e,if_pos rfl] at this
 exact this
theorem k_com : Says E 42 [pV [kq 1 6,kq (-3) 4,kq 2 1]] (.tup [pVZ [2,-9,24],pZ 12,vZ 0]):=by
 have:=com_says [kq 1 6,kq (-3) 4,kq 2 1] 1 (by simp) (by simp) (fun a ha=>by
  simp only [List.mem_cons,List.not_mem_nil,or_false] at ha
  rcases ha with rfl | rfl | rfl <;> exact qw_sm (by decide +kernel)) (by simp)
 have e1 : comN [kq 1 6,kq (-3) 4,kq 2 1] = [2,-9,24]:=by decide +kernel
 have e2 : comD [kq 1 6,kq (-3) 4,kq 2 1] = 12:=by decide +kernel
 rw [e1,e2] at this
 exact this
theorem k_simp : Says E 46 [pQ (kq 3 10),pQ (kq 2 5)] (.tup [pQ (simpP (kq 3 10) (kq 2 5)),vZ 0]):=simp_pos _ _ 1 (by decide +kernel) (by decide +kernel) (qw_sm (by decide +kernel)) (qw_sm (by decide +kernel)) (by decide)
theorem k_prt : printQ (kq (-3) 4) = [45,51,47,52]:=by
 have h1 : (kq (-3) 4).num = -3:=by decide +kernel
 have h2 : ((kq (-3) 4).den : Int) = 4:=by decide +kernel
 have h3 : Lib.itoa (-3) = [45,51]:=by rw [Lib.itoa,if_pos (by decide)]; show 45 :: Lib.decDigits 3 = _; rw [dec_small (by decide)]; rfl
 have h4 : Lib.itoa 4 = [52]:=by rw [Lib.itoa,if_neg (by decide)]; show Lib.decDigits 4 = _; rw [dec_small (by decide)]; rfl
 rw [printQ,h1,h2,if_neg (by decide),h3,h4]; rfl
theorem k_parse : Says E 50 [pS [45,51,47,52]] (.tup [pQ (kq (-3) 4),vZ 0]):=by
 have:=qparse_says [45,51,47,52] (by decide)
 obtain ⟨e1,e2⟩:=parse_print (a:=kq (-3) 4) (Nat.le_trans (nw_le (k:=1) (by decide +kernel)) (by decide)) (Nat.le_trans (nw_le (k:=1) (by decide +kernel)) (by decide))
 rw [k_prt] at e1 e2
 rw [e1,e2] at this
 exact this
theorem k_is : Says E 19 [pQ (kq 1 2)] (bZ true):=by
 have:=qis_says (r:=RQ.of (kq 1 2)) ⟨wd_digs _,wd_digs _⟩ (by show nw _ < _; exact Nat.lt_of_le_of_lt (nw_le (k:=1) (by decide +kernel)) (by decide)) (by show nw _ < _; exact Nat.lt_of_le_of_lt (nw_le (k:=1) (by decide +kernel)) (by decide))
 rw [RQ.is_of] at this
 exact this
theorem k_sign : Says E 24 [pQ (kq (-1) 2)] (vZ (-1)):=by
 have:=qsign_says (kq (-1) 2) (qw_sm9 (by decide +kernel))
 rwa [show cmpQ (kq (-1) 2) 0 = -1 by decide +kernel] at this
theorem k_cmp : Says E 26 [pQ (kq 1 3),pQ (kq 33 100)] (vZ 1):=by
 have:=qcmp_says (kq 1 3) (kq 33 100) (qw_sm9 (by decide +kernel)) (qw_sm9 (by decide +kernel))
 rwa [show cmpQ (kq 1 3) (kq 33 100) = 1 by decide +kernel] at this
theorem k_floor : Says E 31 [pQ (kq (-7) 2)] (pZ (-4)):=by
 have:=qfloor_says (kq (-7) 2) (qw_sm9 (by decide +kernel))
 rwa [show (kq (-7) 2).floor = -4 by decide +kernel] at this
theorem k_print : Says E 52 [pQ (kq (-3) 4)] (pS [45,51,47,52]):=by
 have:=qprint_says (kq (-3) 4) (Nat.lt_of_le_of_lt (qw_sm (by decide +kernel)) (by decide))
 rwa [k_prt] at this
theorem sane_says  : Says E 10 [] (bZ true):=by
 refine says_of (xs:=[bZ true]) Tryz.func10 rfl Tryz.ntmps10 Tryz.results10 (by simp) fun F hG hX0 hnt hdf P0=>?_
 obtain ⟨L,hX,hN⟩:=pro hnt hX0 hG
 refine exr (aV (L rfl) rfl (zn [] [] trivial trivial (exr (cK hG hX cl11 hN k_off (L rfl) t2 (mV (L rfl) rfl (sw (c_ex rfl (L rfl)) t1 t0 (sw (c_ex rfl (L rfl)) t1 t0 (swb (c_al (k:=1) (n:=4) zv26 (.cons rfl (.cons rfl (.cons rfl (.cons rfl .nil)))) rfl (P0 _ rfl) (L rfl)) t0 t0 ⟨rfl,rfl⟩ (sb (c_sm sz26 (by rfl) pa4 rfl pu4) t2 t1 ?_)))))))))
 refine aV (L rfl) rfl (zn [(1,_),(2,_)] [(1,_)] t2 t1 (exr (cK hG hX cl45 hN (rof_says 6 (by decide) (by decide)) (L rfl) t1 ?_)))
 refine cK hG hX cl45 hN (rof_says (-4) (by decide) (by decide)) (L rfl) t1 ?_
 refine cK hG hX cl13 hN k_make (L rfl) t2 (mV (L rfl) rfl (sw (c_ex rfl (L rfl)) t1 t0 (sw (c_ex rfl (L rfl)) t1 t0 (swb (c_al (k:=3) (n:=4) zv26 (.cons rfl (.cons rfl (.cons rfl (.cons rfl .nil)))) rfl (P0 _ rfl) (L rfl)) t0 t0 ⟨rfl,rfl⟩ (sb (c_sm sz26 (by rfl) pa4 rfl pu4) t2 t1 ?_)))))
 refine aV (L rfl) rfl (zn [(1,_),(2,_),(3,_),(4,_)] [(1,_),(3,_)] t4 t2 (exr (cK hG hX cl49 hN (k_of 1 2 rfl) (L rfl) t2 (cK hG hX cl49 hN (k_of (-1) 4 rfl) (L rfl) t2 (cK hG hX cl22 hN k_div (L rfl) t2 (mV (L rfl) rfl (sw (c_ex rfl (L rfl)) t1 t0 (sw (c_ex rfl (L rfl)) t1 t0 (swb (c_al (k:=5) (n:=4) zv26 (.cons rfl (.cons rfl (.cons rfl (.cons rfl .nil)))) rfl (P0 _ rfl) (L rfl)) t0 t0 ⟨rfl,rfl⟩ (sb (c_sm sz26 (by rfl) pa4 rfl pu4) t2 t1 ?_))))))))))
 refine aV (L rfl) rfl (zn [(1,_),(2,_),(3,_),(4,_),(5,_),(6,_)] [(1,_),(3,_),(5,_)] t6 t3 (exr (cK hG hX cl49 hN (k_of (-2) 3 rfl) (L rfl) t2 (cK hG hX cl40 hN k_pow (L rfl) t2 (mV (L rfl) rfl (sw (c_ex rfl (L rfl)) t1 t0 (sw (c_ex rfl (L rfl)) t1 t0 (swb (c_al (k:=7) (n:=4) zv26 (.cons rfl (.cons rfl (.cons rfl (.cons rfl .nil)))) rfl (P0 _ rfl) (L rfl)) t0 t0 ⟨rfl,rfl⟩ (sb (c_sm sz26 (by rfl) pa4 rfl pu4) t2 t1 ?_)))))))))
 refine aV (L rfl) rfl (zn [(1,_),(2,_),(3,_),(4,_),(5,_),(6,_),(7,_),(8,_)] [(1,_),(3,_),(5,_),(7,_)] t8 t4 (exr (cK hG hX cl49 hN (k_of 1 6 rfl) (L rfl) t2 (cK hG hX cl49 hN (k_of (-3) 4 rfl) (L rfl) t2 (cK hG hX cl49 hN (k_of 2 1 rfl) (L rfl) t2 (sw (c_bI (vs:=[_,_,_]) un47 ti26 rfl rfl (by decide) (by decide) rfl (zs_made (.cons rfl (.cons rfl (.cons rfl (.cons rfl .nil)))) rfl) rfl (.cons rfl pa4 rfl pu4 (.cons rfl pa4 rfl (.skip (.skip (.skip (.skip pu4)))) (.cons rfl pa4 rfl (.skip (.skip (.skip (.skip (.skip (.skip (.skip (.skip pu4)))))))) .nil))) (.cons (.cons (.cons (.cons (.cons (.cons (.cons (.cons (.cons (.cons (.cons (.cons .nil)))))))))))) (L rfl)) t3 t0 ?_))))))
 refine cK hG hX cl42 hN k_com (L rfl) t1 (mV (L rfl) rfl (sw (c_ex rfl (L rfl)) t1 t0 (sw (c_ex rfl (L rfl)) t1 t0 (sw (c_ex rfl (L rfl)) t1 t0 (swb (c_al (k:=10) (n:=2) zv24 (.cons rfl (.cons rfl .nil)) rfl (P0 _ rfl) (L rfl)) t0 t0 ⟨rfl,rfl⟩ (aV (L rfl) rfl (sb (c_sm sz24 (by rfl) pa2 rfl pu2) t2 t1 ?_)))))))
 refine aV (L rfl) rfl (zn [(1,_),(2,_),(3,_),(4,_),(5,_),(6,_),(7,_),(8,_),(9,_),(10,_),(11,_)] [(1,_),(3,_),(5,_),(7,_),(10,_)] t11 t5 (exr (cK hG hX cl49 hN (k_of 3 10 rfl) (L rfl) t2 (cK hG hX cl49 hN (k_of 2 5 rfl) (L rfl) t2 (cK hG hX cl46 hN k_simp (L rfl) t2 (mV (L rfl) rfl (sw (c_ex rfl (L rfl)) t1 t0 (sw (c_ex rfl (L rfl)) t1 t0 (swb (c_al (k:=12) (n:=4) zv26 (.cons rfl (.cons rfl (.cons rfl (.cons rfl .nil)))) rfl (P0 _ rfl) (L rfl)) t0 t0 ⟨rfl,rfl⟩ (sb (c_sm sz26 (by rfl) pa4 rfl pu4) t2 t1 ?_))))))))))
 refine aV (L rfl) rfl (zn [(1,_),(2,_),(3,_),(4,_),(5,_),(6,_),(7,_),(8,_),(9,_),(10,_),(11,_),(12,_),(13,_)] [(1,_),(3,_),(5,_),(7,_),(10,_),(12,_)] t13 t6 (exr (cK hG hX cl50 hN k_parse (L rfl) t1 (mV (L rfl) rfl (sw (c_ex rfl (L rfl)) t1 t0 (sw (c_ex rfl (L rfl)) t1 t0 (swb (c_al (k:=14) (n:=4) zv26 (.cons rfl (.cons rfl (.cons rfl (.cons rfl .nil)))) rfl (P0 _ rfl) (L rfl)) t0 t0 ⟨rfl,rfl⟩ (sb (c_sm sz26 (by rfl) pa4 rfl pu4) t2 t1 ?_))))))))
 refine aV (L rfl) rfl (zn [(1,_),(2,_),(3,_),(4,_),(5,_),(6,_),(7,_),(8,_),(9,_),(10,_),(11,_),(12,_),(13,_),(14,_),(15,_)] [(1,_),(3,_),(5,_),(7,_),(10,_),(12,_),(14,_)] t15 t7 (ex_seq (exr (mV (L rfl) rfl (sw (c_n (L rfl)) t2 t0 (mV (L rfl) rfl (gV (g:=60) rfl rfl (L rfl) rfl rfl (swg (g:=60) rfl rfl (c_n (L rfl)) rfl t2 t0 (sw (c_pf rfl (L rfl)) t2 t0 (mV (L rfl) rfl (gV (g:=64) rfl rfl (L rfl) rfl rfl ?_)))))))))))
 refine swg (g:=64) rfl rfl (c_n (L rfl)) rfl t2 t0 (sw (c_pf rfl (L rfl)) t2 t0 (mV (L rfl) rfl (gV (g:=68) rfl rfl (L rfl) rfl rfl (swg (g:=68) rfl rfl (c_n (L rfl)) rfl t2 t0 (sw (c_pf rfl (L rfl)) t2 t0 (mV (L rfl) rfl (gV (g:=72) rfl rfl (L rfl) rfl rfl (swg (g:=72) rfl rfl (c_n (L rfl)) rfl t2 t0 (sw (c_pf rfl (L rfl)) t2 t0 (mV (L rfl) rfl (gV (g:=76) rfl rfl (L rfl) rfl rfl ?_)))))))))))
 refine swg (g:=76) rfl rfl (c_n (L rfl)) rfl t2 t0 (sw (c_pf rfl (L rfl)) t2 t0 (mV (L rfl) rfl (gV (g:=80) rfl rfl (L rfl) rfl rfl (swg (g:=80) rfl rfl (c_n (L rfl)) rfl t2 t0 (sw (c_pf rfl (L rfl)) t2 t0 (mV (L rfl) rfl (gV (g:=84) rfl rfl (L rfl) rfl rfl (swg (g:=84) rfl rfl (c_ln un48 (L rfl)) rfl t1 t0 (swg (g:=84) rfl rfl (c_n (L rfl)) rfl t2 t0 (sw (c_pf rfl (L rfl)) t2 t0 (zn [(1,_),(3,_),(5,_),(7,_),(9,_),(10,_),(12,_),(14,_),(88,_)] [(1,_),(3,_),(5,_),(7,_),(10,_),(12,_),(14,_)] t9 t7 ?_)))))))))))
 refine ex_if rfl (fun hc=>?_) (fun hc=>?_)
 ·cases hc
 ·refine ex_skip (show Exec _ _ _ _ _ from ?_)
  refine exd (by rfl) ?_
  refine lp4 ag26 sz26 (L rfl) rfl rfl (cK hG hX cl49 hN (k_of (-3) 2 rfl) (L rfl) t2 (cK hG hX cl16 hN (k_same (a:=kq 6 (-4)) (b:=kq (-3) 2) (qw_sm9 (by decide +kernel)) (qw_sm9 (by decide +kernel)) (by decide +kernel)) (L rfl) t2 ?_))
  refine mV (L rfl) rfl (swg (g:=92) rfl rfl (c_lp ag26 sz26 (by rfl) (by exact al4) rfl (L rfl)) rfl t1 t1 ?_)
  refine swg (g:=92) rfl rfl (c_lp ag26 sz26 (by rfl) (by exact al4) rfl (L rfl)) rfl t1 t1 ?_
  refine swg (g:=92) rfl rfl (c_c hG hX cl16 rfl hN (k_same (a:=kq 6 (-4)) (b:=kq 6 (-4)) (qw_sm9 (by decide +kernel)) (qw_sm9 (by decide +kernel)) (by decide +kernel)) (L rfl)) rfl t2 t0 ?_
  refine sw (c_pt rfl (L rfl)) t2 t0 (mV (L rfl) rfl (swg (g:=97) rfl rfl (c_lp ag26 sz26 (by rfl) (by exact al4) rfl (L rfl)) rfl t1 t1 ?_))
  refine swg (g:=97) rfl rfl (c_c hG hX cl49 rfl hN (k_of (-2) 1 rfl) (L rfl)) rfl t2 t0 (swg (g:=97) rfl rfl (c_c hG hX cl16 rfl hN (k_same (a:=kq 1 2 / kq (-1) 4) (b:=kq (-2) 1) (qw_sm9 (by decide +kernel)) (qw_sm9 (by decide +kernel)) (by decide +kernel)) (L rfl)) rfl t2 t0 ?_)
  refine sw (c_pt rfl (L rfl)) t2 t0 (mV (L rfl) rfl (swg (g:=102) rfl rfl (c_lp ag26 sz26 (by rfl) (by exact al4) rfl (L rfl)) rfl t1 t1 ?_))
  refine swg (g:=102) rfl rfl (c_c hG hX cl49 rfl hN (k_of (-27) 8 rfl) (L rfl)) rfl t2 t0 (swg (g:=102) rfl rfl (c_c hG hX cl16 rfl hN (k_same (a:=kq (-2) 3 ^ (-3 : Int)) (b:=kq (-27) 8) (qw_sm9 (by decide +kernel)) (qw_sm9 (by decide +kernel)) (by decide +kernel)) (L rfl)) rfl t2 t0 ?_)
  refine sw (c_pt rfl (L rfl)) t2 t0 (mV (L rfl) rfl (gV (g:=107) rfl rfl (L rfl) rfl rfl (swg (g:=107) rfl rfl (core_indexAddrJ un48 sz24 (by decide) (by decide) (by simp) (by decide) (L rfl)) rfl t2 t0 ?_)))
  refine swg (g:=107) rfl rfl (c_la ag24 sz24 rfl rfl (L rfl)) rfl t1 t0 (swg (g:=107) rfl rfl (c_c hG hX cl45 rfl hN (rof_says (-9) (by decide) (by decide)) (L rfl)) rfl t1 t0 ?_)
  refine swg (g:=107) rfl rfl (c_c hG hX cl30 rfl hN (k_zsame (-9) (nw_sm (by decide))) (L rfl)) rfl t2 t0 ?_
  refine sw (c_pt rfl (L rfl)) t2 t0 (mV (L rfl) rfl (swg (g:=114) rfl rfl (c_lp ag24 sz24 (by rfl) (by exact al2) rfl (L rfl)) rfl t1 t1 ?_))
  refine swg (g:=114) rfl rfl (c_c hG hX cl45 rfl hN (rof_says 12 (by decide) (by decide)) (L rfl)) rfl t1 t0 ?_
  refine swg (g:=114) rfl rfl (c_c hG hX cl30 rfl hN (k_zsame 12 (nw_sm (by decide))) (L rfl)) rfl t2 t0 ?_
  refine sw (c_pt rfl (L rfl)) t2 t0 (mV (L rfl) rfl (swg (g:=119) rfl rfl (c_lp ag26 sz26 (by rfl) (by exact al4) rfl (L rfl)) rfl t1 t1 ?_))
  refine swg (g:=119) rfl rfl (c_c hG hX cl49 rfl hN (k_of 1 3 rfl) (L rfl)) rfl t2 t0 (swg (g:=119) rfl rfl (c_c hG hX cl16 rfl hN (k_same (a:=simpP (kq 3 10) (kq 2 5)) (b:=kq 1 3) (qw_sm9 (by decide +kernel)) (qw_sm9 (by decide +kernel)) (by decide +kernel)) (L rfl)) rfl t2 t0 ?_)
  refine sw (c_pt rfl (L rfl)) t2 t0 (mV (L rfl) rfl (swg (g:=124) rfl rfl (c_lp ag26 sz26 (by rfl) (by exact al4) rfl (L rfl)) rfl t1 t1 ?_))
  refine swg (g:=124) rfl rfl (c_c hG hX cl49 rfl hN (k_of (-3) 4 rfl) (L rfl)) rfl t2 t0 (swg (g:=124) rfl rfl (c_c hG hX cl16 rfl hN (k_same (a:=kq (-3) 4) (b:=kq (-3) 4) (qw_sm9 (by decide +kernel)) (qw_sm9 (by decide +kernel)) (by decide +kernel)) (L rfl)) rfl t2 t0 ?_)
  refine sw (c_pt rfl (L rfl)) t2 t0 (aV (L rfl) rfl ?_)
  refine seq_nil ⟨aoks [⟨[1],[1],[89],[]⟩,⟨[],[],[90],[]⟩,⟨[89,90],[],[91],[]⟩,⟨[91],[],[92],[]⟩,⟨[92,3],[3],[93],[]⟩,⟨[92,1],[1],[94],[]⟩,⟨[92,93,94],[],[95],[]⟩,⟨[92,95],[],[96],[]⟩,⟨[96],[],[97],[]⟩,⟨[97,5],[5],[98],[]⟩,⟨[97],[],[99],[]⟩,⟨[97,98,99],[],[100],[]⟩,⟨[97,100],[],[101],[]⟩,⟨[101],[],[102],[]⟩,⟨[102,7],[7],[103],[]⟩,⟨[102],[],[104],[]⟩,⟨[102,103,104],[],[105],[]⟩,⟨[102,105],[],[106],[]⟩,⟨[106],[],[107],[]⟩,⟨[107,9],[],[108],[]⟩,⟨[107,108],[],[109],[]⟩,⟨[107,109],[],[110],[]⟩,⟨[107],[],[111],[]⟩,⟨[107,110,111],[],[112],[]⟩,⟨[107,112],[],[113],[]⟩,⟨[113],[],[114],[]⟩,⟨[114,10],[10],[115],[]⟩,⟨[114],[],[116],[]⟩,⟨[114,115,116],[],[117],[]⟩,⟨[114,117],[],[118],[]⟩,⟨[118],[],[119],[]⟩,⟨[119,12],[12],[120],[]⟩,⟨[119],[],[121],[]⟩,⟨[119,120,121],[],[122],[]⟩,⟨[119,122],[],[123],[]⟩,⟨[123],[],[124],[]⟩,⟨[124,14],[14],[125],[]⟩,⟨[124],[],[126],[]⟩,⟨[124,125,126],[],[127],[]⟩,⟨[124,127],[],[128],[]⟩,⟨[128],[],[16],[]⟩] (by rfl) (by rfl) (by decide),[(16,_)],[],t1,trivial,?_⟩
  refine exr (cK hG hX cl49 hN (k_of 1 6 rfl) (L rfl) t2 (cK hG hX cl49 hN (k_of 1 10 rfl) (L rfl) t2 (cK hG hX cl33 hN (qadd_says (kq 1 6) (kq 1 10) (qw_sm9 (by decide +kernel)) (qw_sm9 (by decide +kernel))) (L rfl) t2 ?_)))
  refine cK hG hX cl49 hN (k_of 4 15 rfl) (L rfl) t2 (cK hG hX cl16 hN (k_same (a:=kq 1 6 + kq 1 10) (b:=kq 4 15) (qw_sm9 (by decide +kernel)) (qw_sm9 (by decide +kernel)) (by decide +kernel)) (L rfl) t2 ?_)
  refine mV (L rfl) rfl (swg (g:=134) rfl rfl (c_c hG hX cl49 rfl hN (k_of 1 2 rfl) (L rfl)) rfl t2 t0 (swg (g:=134) rfl rfl (c_c hG hX cl49 rfl hN (k_of 1 3 rfl) (L rfl)) rfl t2 t0 (swg (g:=134) rfl rfl (c_c hG hX cl35 rfl hN (qsub_says (kq 1 2) (kq 1 3) (qw_sm9 (by decide +kernel)) (qw_sm9 (by decide +kernel))) (L rfl)) rfl t2 t0 ?_)))
  refine swg (g:=134) rfl rfl (c_c hG hX cl49 rfl hN (k_of 1 6 rfl) (L rfl)) rfl t2 t0 (swg (g:=134) rfl rfl (c_c hG hX cl16 rfl hN (k_same (a:=kq 1 2 - kq 1 3) (b:=kq 1 6) (qw_sm9 (by decide +kernel)) (qw_sm9 (by decide +kernel)) (by decide +kernel)) (L rfl)) rfl t2 t0 ?_)
  refine sw (c_pt rfl (L rfl)) t2 t0 (mV (L rfl) rfl (swg (g:=141) rfl rfl (c_c hG hX cl49 rfl hN (k_of (-2) 3 rfl) (L rfl)) rfl t2 t0 (swg (g:=141) rfl rfl (c_c hG hX cl49 rfl hN (k_of 9 4 rfl) (L rfl)) rfl t2 t0 (swg (g:=141) rfl rfl (c_c hG hX cl37 rfl hN (qmul_says (kq (-2) 3) (kq 9 4) (qw_sm9 (by decide +kernel)) (qw_sm9 (by decide +kernel))) (L rfl)) rfl t2 t0 ?_))))
  refine swg (g:=141) rfl rfl (c_c hG hX cl49 rfl hN (k_of (-3) 2 rfl) (L rfl)) rfl t2 t0 (swg (g:=141) rfl rfl (c_c hG hX cl16 rfl hN (k_same (a:=kq (-2) 3 * kq 9 4) (b:=kq (-3) 2) (qw_sm9 (by decide +kernel)) (qw_sm9 (by decide +kernel)) (by decide +kernel)) (L rfl)) rfl t2 t0 ?_)
  refine sw (c_pt rfl (L rfl)) t2 t0 (mV (L rfl) rfl (swg (g:=148) rfl rfl (c_c hG hX cl49 rfl hN (k_of 1 2 rfl) (L rfl)) rfl t2 t0 (swg (g:=148) rfl rfl (c_c hG hX cl28 rfl hN (qneg_says (kq 1 2) (qw_sm9 (by decide +kernel))) (L rfl)) rfl t1 t0 ?_)))
  refine swg (g:=148) rfl rfl (c_c hG hX cl49 rfl hN (k_of (-1) 2 rfl) (L rfl)) rfl t2 t0 (swg (g:=148) rfl rfl (c_c hG hX cl16 rfl hN (k_same (a:=-kq 1 2) (b:=kq (-1) 2) (qw_sm9 (by decide +kernel)) (qw_sm9 (by decide +kernel)) (by decide +kernel)) (L rfl)) rfl t2 t0 ?_)
  refine sw (c_pt rfl (L rfl)) t2 t0 (aV (L rfl) rfl (zn [(16,_),(17,_)] [] t2 trivial (exr (mV (L rfl) rfl (mV (L rfl) rfl (gV (g:=155) rfl rfl (L rfl) rfl rfl (sw (c_pt rfl (L rfl)) t2 t0 (mV (L rfl) rfl (swg (g:=158) rfl rfl (c_c hG hX cl49 rfl hN (k_of 1 2 rfl) (L rfl)) rfl t2 t0 (swg (g:=158) rfl rfl (c_c hG hX cl19 rfl hN k_is (L rfl)) rfl t1 t0 (sw (c_pt rfl (L rfl)) t2 t0 ?_)))))))))))
  refine mV (L rfl) rfl (swg (g:=162) rfl rfl (c_c hG hX cl49 rfl hN (k_of (-1) 2 rfl) (L rfl)) rfl t2 t0 (swg (g:=162) rfl rfl (c_c hG hX cl24 rfl hN k_sign (L rfl)) rfl t1 t0 (swg (g:=162) rfl rfl (c_e (L rfl)) rfl t2 t0 (sw (c_pt rfl (L rfl)) t2 t0 (mV (L rfl) rfl (swg (g:=167) rfl rfl (c_c hG hX cl49 rfl hN (k_of 1 3 rfl) (L rfl)) rfl t2 t0 (swg (g:=167) rfl rfl (c_c hG hX cl49 rfl hN (k_of 33 100 rfl) (L rfl)) rfl t2 t0 (swg (g:=167) rfl rfl (c_c hG hX cl26 rfl hN k_cmp (L rfl)) rfl t2 t0 (swg (g:=167) rfl rfl (c_e (L rfl)) rfl t2 t0 (sw (c_pt rfl (L rfl)) t2 t0 (mV (L rfl) rfl ?_)))))))))))
  refine swg (g:=173) rfl rfl (c_c hG hX cl49 rfl hN (k_of (-7) 2 rfl) (L rfl)) rfl t2 t0 (swg (g:=173) rfl rfl (c_c hG hX cl31 rfl hN k_floor (L rfl)) rfl t1 t0 (swg (g:=173) rfl rfl (c_c hG hX cl45 rfl hN (rof_says (-4) (by decide) (by decide)) (L rfl)) rfl t1 t0 ?_))
  refine swg (g:=173) rfl rfl (c_c hG hX cl30 rfl hN (k_zsame (-4) (nw_sm (by decide))) (L rfl)) rfl t2 t0 ?_
  refine sw (c_pt rfl (L rfl)) t2 t0 (mV (L rfl) rfl (swg (g:=179) rfl rfl (c_c hG hX cl45 rfl hN (rof_says 5 (by decide) (by decide)) (L rfl)) rfl t1 t0 ?_))
  refine swg (g:=179) rfl rfl (c_c hG hX cl17 rfl hN (qwhole_says 5) (L rfl)) rfl t1 t0 (swg (g:=179) rfl rfl (c_c hG hX cl49 rfl hN (k_of 5 1 rfl) (L rfl)) rfl t2 t0 (swg (g:=179) rfl rfl (c_c hG hX cl16 rfl hN (k_same (a:=((5 : Int) : Rat)) (b:=kq 5 1) (qw_sm9 (by decide +kernel)) (qw_sm9 (by decide +kernel)) (by decide +kernel)) (L rfl)) rfl t2 t0 ?_))
  refine sw (c_pt rfl (L rfl)) t2 t0 (mV (L rfl) rfl (swg (g:=185) rfl rfl (c_c hG hX cl49 rfl hN (k_of (-3) 4 rfl) (L rfl)) rfl t2 t0 (swg (g:=185) rfl rfl (c_c hG hX cl52 rfl hN k_print (L rfl)) rfl t1 t0 (swg (g:=185) rfl rfl (c_se (L rfl)) rfl t2 t0 (sw (c_pt rfl (L rfl)) t2 t0 (aV (L rfl) rfl (zn [(0,_)] [] t1 trivial (ex_ret ?_))))))))
  refine ⟨.inr rfl,ResVs.cast (.cons (.tmp rfl) .nil) ?_⟩
  rfl
end Go.Proofs.YtcifhkfpmhifaaaGreatDoor.N
set_option maxRecDepth 100000
set_option maxHeartbeats 4000000
namespace Go.Proofs.YtcifhkfpmhifaaaGreatDoor.N
open Go Go.Proofs.YtcifhkfpmhifaaaGreatDoor.SH Go.Proofs.YtcifhkfpmhifaaaGreatDoor.NumA
open Go.Proofs.Tryz renaming call10 → cl10,call11 → cl11,call12 → cl12,call13 → cl13,call14 → cl14,call15 → cl15,call16 → cl16,call17 → cl17,call18 → cl18,call19 → cl19,call20 → cl20,call24 → cl24,call25 → cl25,call47 → cl47,call68 → cl68,call71 → cl71,isAgg22 → ag22,isAgg24 → ag24,isAgg26 → ag26,sizeOf22 → sz22,sizeOf24 → sz24,sizeOf26 → sz26,underlying22 → un22,underlying24 → un24,underlying26 → un26,underlying4 → un4,zeroValue26 → zv26
theorem sm_R0 : R0.sm:=⟨⟨Wd.nil,Wd.nil⟩,by decide,by decide⟩
theorem k_sameR {a : RQ} (ha : a.sm) : Says E 16 [.agg (cR a),.agg (cR a)] (bZ true):=by
 have:=rsameR ha ha
 rwa [eqR_iff.2 rfl] at this
end Go.Proofs.YtcifhkfpmhifaaaGreatDoor.N
set_option maxRecDepth 100000
set_option maxHeartbeats 4000000
namespace Go.Proofs.YtcifhkfpmhifaaaGreatDoor.N
open Go Go.Proofs.YtcifhkfpmhifaaaGreatDoor.SH Go.Proofs.YtcifhkfpmhifaaaGreatDoor.NumA
open Go.Proofs.Tryz renaming call10 → cl10,call16 → cl16,call21 → cl21,call22 → cl22,call23 → cl23,call24 → cl24,call25 → cl25,call26 → cl26,call27 → cl27,call28 → cl28,call29 → cl29,call30 → cl30,call31 → cl31,call32 → cl32,call33 → cl33,call34 → cl34,call35 → cl35,call36 → cl36,call37 → cl37,call38 → cl38,call39 → cl39,call40 → cl40,call41 → cl41,isAgg26 → ag26,sizeOf26 → sz26,zeroValue26 → zv26
theorem small_q {k : Nat} {m n : Bool} {ws vs : List Int} (hs : smallR k ⟨m,ws,n,vs⟩ = true) (w1 : Wd ws) (w2 : Wd vs) : ∃ a : Rat,(m = decide (a.num < 0) ∧ ws = digs a.num.natAbs ∧ n = decide ((a.den : Int) < 0) ∧ vs = digs (a.den : Int).natAbs) ∧ qw a ≤ k:=by
 rw [smallR,Bool.and_eq_true,Bool.and_eq_true,decide_eq_true_eq,decide_eq_true_eq] at hs
 obtain ⟨⟨h1,h2⟩,h3⟩:=hs
 obtain ⟨a,ha⟩:=RQ.of_is (r:=⟨m,ws,n,vs⟩) ⟨w1,w2⟩ h3
 rw [RQ.of] at ha
 injection ha with e1 e2 e3 e4
 refine ⟨a,⟨e1,e2,e3,e4⟩,?_⟩
 have g1 : nw a.num ≤ k:=by unfold nw; rw [← e2]; simp only at h1; omega
 have g2 : nw (a.den : Int) ≤ k:=by unfold nw; rw [← e4]; simp only at h2; omega
 unfold qw; omega
theorem k_same1 (a : Rat) (ha : qw a < 1000000000) : Says E 16 [pQ a,pQ a] (bZ true):=k_same ha ha rfl
end Go.Proofs.YtcifhkfpmhifaaaGreatDoor.N
set_option maxRecDepth 100000
set_option maxHeartbeats 4000000
namespace Go.Proofs.YtcifhkfpmhifaaaGreatDoor.N
open Go Go.Proofs.YtcifhkfpmhifaaaGreatDoor.SH Go.Proofs.YtcifhkfpmhifaaaGreatDoor.NumA
open Go.Proofs.Tryz renaming call10 → cl10,call16 → cl16,call21 → cl21,call50 → cl50,call51 → cl51,call52 → cl52,call53 → cl53,isAgg26 → ag26,sizeOf26 → sz26,underlying9 → un9,zeroValue26 → zv26
theorem pqV_sm {bs : List UInt8} (h : bs.length < 100000) : (pqV bs).sm:=by
 by_cases hE : pqE bs = 0
 ·obtain ⟨a,e,-,hq⟩:=print_parse hE
  rw [e]; exact RQ.sm_of (by omega)
 ·rw [pqV,if_neg hE]; exact sm_R0
theorem printQ_len {a : Rat} (h : qw a ≤ 100) : (printQ a).length < 100000:=by
 have h1:=nw_num_le a
 have h2:=nw_den_le a
 have l1:=itoa_len a.num
 have l2:=itoa_len a.den
 rw [printQ]; split
 ·omega
 ·rw [List.length_append,List.length_cons]; omega
theorem tcases (n : Nat) : ((n : Int) > 2000 ∧ (n : Int) ≤ 20000) ∨ ((n : Int) > 2000 ∧ ¬ (n : Int) ≤ 20000 ∧ (n : Int) > 60000) ∨ ((n : Int) > 2000 ∧ ¬ (n : Int) ≤ 20000 ∧ ¬ (n : Int) > 60000) ∨ (¬ (n : Int) > 2000 ∧ ¬ (n : Int) > 60000):=by omega
theorem texts_says (bs : List UInt8) (am an : Bool) (aw av : List Int) (w1 : Wd aw) (w2 : Wd av) : Says E 8 [pS bs,pR am aw an av] (bZ true):=by
 refine says_of (xs:=[bZ true]) Tryz.func8 rfl Tryz.ntmps8 Tryz.results8 (by simp) fun F hG hX0 hnt hdf P0=>?_
 obtain ⟨L,hX,hN⟩:=pro hnt hX0 hG
 have hsz:=str_size bs
 refine exr (swb (c_bx (k:=3) (n:=4) pa4 rfl rfl (P0 _ rfl) (L rfl)) t1 t0 ⟨rfl,rfl⟩ (aV (L rfl) rfl (zn [(0,_),(3,_)] [(3,_)] t2 t1 (ex_seq ?_))))
 refine exm (sl:=[(29,vb (decide ((bs.length : Int) > 2000 ∧ (bs.length : Int) ≤ 20000 ∨ (bs.length : Int) > 60000) || !smallR 40 ⟨am,aw,an,av⟩))]) (sl0:=[(0,_),(3,_)]) (hb:=[]) (hb0:=[(3,_)]) t2 t1 ?_ ?_
 ·rw [← hsz]; rcases tcases (str bs).size with ⟨h1,h2⟩ | ⟨h1,h2,h3⟩ | ⟨h1,h2,h3⟩ | ⟨h1,h3⟩
  ·refine mV (L rfl) rfl (sw (c_lS un9 (L rfl)) t1 t0 (sw (c_gt (L rfl)) t2 t0 (mV (L rfl) rfl (gV (g:=15) rfl (decide_eq_true h1) (L rfl) rfl rfl (swg (g:=15) rfl (decide_eq_true h1) (c_lS un9 (L rfl)) rfl t1 t0 (swg (g:=15) rfl (decide_eq_true h1) (c_le (L rfl)) rfl t2 t0 (sw (c_pt (decide_eq_true h1) (L rfl)) t2 t0 (mV (L rfl) rfl (swn (g:=20) rfl (decide_eq_true h2) (L rfl) rfl (swn (g:=20) rfl (decide_eq_true h2) (L rfl) rfl (swn (g:=20) rfl (decide_eq_true h2) (L rfl) rfl ?_)))))))))))
   refine sw (c_pt (decide_eq_true h2) (L rfl)) t2 t0 (mV (L rfl) rfl (swn (g:=25) rfl rfl (L rfl) rfl (swn (g:=25) rfl rfl (L rfl) rfl (swn (g:=25) rfl rfl (L rfl) rfl (sw (c_pt rfl (L rfl)) t2 t0 ?_)))))
   exact seq_nil ⟨⟨ob rfl (by simp [h1,h2]),rfl,rfl,trivial⟩,t1⟩
  ·refine mV (L rfl) rfl (sw (c_lS un9 (L rfl)) t1 t0 (sw (c_gt (L rfl)) t2 t0 (mV (L rfl) rfl (gV (g:=15) rfl (decide_eq_true h1) (L rfl) rfl rfl (swg (g:=15) rfl (decide_eq_true h1) (c_lS un9 (L rfl)) rfl t1 t0 (swg (g:=15) rfl (decide_eq_true h1) (c_le (L rfl)) rfl t2 t0 (sw (c_pt (decide_eq_true h1) (L rfl)) t2 t0 (mV (L rfl) rfl (gV (g:=20) rfl (decide_eq_false h2) (L rfl) rfl rfl (swg (g:=20) rfl (decide_eq_false h2) (c_lS un9 (L rfl)) rfl t1 t0 (swg (g:=20) rfl (decide_eq_false h2) (c_gt (L rfl)) rfl t2 t0 ?_)))))))))))
   refine sw (c_pf (decide_eq_false h2) (L rfl)) t2 t0 (mV (L rfl) rfl (swn (g:=25) rfl (decide_eq_true h3) (L rfl) rfl (swn (g:=25) rfl (decide_eq_true h3) (L rfl) rfl (swn (g:=25) rfl (decide_eq_true h3) (L rfl) rfl (sw (c_pt (decide_eq_true h3) (L rfl)) t2 t0 ?_)))))
   exact seq_nil ⟨⟨ob rfl (by simp [h3]),rfl,rfl,trivial⟩,t1⟩
  ·refine mV (L rfl) rfl (sw (c_lS un9 (L rfl)) t1 t0 (sw (c_gt (L rfl)) t2 t0 (mV (L rfl) rfl (gV (g:=15) rfl (decide_eq_true h1) (L rfl) rfl rfl (swg (g:=15) rfl (decide_eq_true h1) (c_lS un9 (L rfl)) rfl t1 t0 (swg (g:=15) rfl (decide_eq_true h1) (c_le (L rfl)) rfl t2 t0 (sw (c_pt (decide_eq_true h1) (L rfl)) t2 t0 (mV (L rfl) rfl (gV (g:=20) rfl (decide_eq_false h2) (L rfl) rfl rfl (swg (g:=20) rfl (decide_eq_false h2) (c_lS un9 (L rfl)) rfl t1 t0 (swg (g:=20) rfl (decide_eq_false h2) (c_gt (L rfl)) rfl t2 t0 ?_)))))))))))
   refine sw (c_pf (decide_eq_false h2) (L rfl)) t2 t0 (mV (L rfl) rfl (swg (g:=25) rfl (decide_eq_false h3) (c_lp ag26 sz26 (by rfl) (by exact al4) rfl (L rfl)) rfl t1 t1 ?_))
   refine swg (g:=25) rfl (decide_eq_false h3) (c_c hG hX cl21 rfl hN (small_says (r:=⟨am,aw,an,av⟩) 40 ⟨w1,w2⟩ (by decide)) (L rfl)) rfl t2 t0 ?_
   refine swg (g:=25) rfl (decide_eq_false h3) (c_no (L rfl)) rfl t1 t0 (sw (c_pf (decide_eq_false h3) (L rfl)) t2 t0 ?_)
   exact seq_nil ⟨⟨ob rfl (by simp [h2,h3]),rfl,rfl,trivial⟩,t1⟩
  ·refine mV (L rfl) rfl (sw (c_lS un9 (L rfl)) t1 t0 (sw (c_gt (L rfl)) t2 t0 (mV (L rfl) rfl (swn (g:=15) rfl (decide_eq_false h1) (L rfl) rfl (swn (g:=15) rfl (decide_eq_false h1) (L rfl) rfl (swn (g:=15) rfl (decide_eq_false h1) (L rfl) rfl (sw (c_pf (decide_eq_false h1) (L rfl)) t2 t0 (mV (L rfl) rfl (gV (g:=20) rfl rfl (L rfl) rfl rfl (swg (g:=20) rfl rfl (c_lS un9 (L rfl)) rfl t1 t0 (swg (g:=20) rfl rfl (c_gt (L rfl)) rfl t2 t0 ?_)))))))))))
   refine sw (c_pf rfl (L rfl)) t2 t0 (mV (L rfl) rfl (swg (g:=25) rfl (decide_eq_false h3) (c_lp ag26 sz26 (by rfl) (by exact al4) rfl (L rfl)) rfl t1 t1 ?_))
   refine swg (g:=25) rfl (decide_eq_false h3) (c_c hG hX cl21 rfl hN (small_says (r:=⟨am,aw,an,av⟩) 40 ⟨w1,w2⟩ (by decide)) (L rfl)) rfl t2 t0 ?_
   refine swg (g:=25) rfl (decide_eq_false h3) (c_no (L rfl)) rfl t1 t0 (sw (c_pf (decide_eq_false h3) (L rfl)) t2 t0 ?_)
   exact seq_nil ⟨⟨ob rfl (by simp [h1,h3]),rfl,rfl,trivial⟩,t1⟩
 refine ex_if rfl (fun hc=>?_) (fun hc=>?_)
 ·refine exr (cK hG hX cl10 hN sane_says (L rfl) t0 (aV (L rfl) rfl (zn [(4,_)] [] t1 trivial (ex_ret ?_))))
  refine ⟨.inr rfl,ResVs.cast (.cons (.tmp rfl) .nil) ?_⟩
  rfl
 ·rw [Bool.or_eq_false_iff,Bool.not_eq_false'] at hc
  have hl:=df hc.1
  obtain ⟨a,⟨rfl,rfl,rfl,rfl⟩,qa⟩:=small_q (k:=40) hc.2 w1 w2
  have hbl : bs.length < 100000:=by omega
  have h1:=nw_num_le a
  have h2:=nw_den_le a
  have pS:=pqV_sm hbl
  have pl:=printQ_len (a:=a) (by omega)
  obtain ⟨pe,pv⟩:=parse_print (a:=a) (by omega) (by omega)
  have pp:=qparse_says (printQ a) pl
  rw [pe,pv] at pp
  refine ex_skip (show Exec _ _ _ _ _ from ?_)
  refine exr (mV (L rfl) rfl (cK hG hX cl50 hN (qparse_says bs hbl) (L rfl) t1 (mV (L rfl) rfl (sw (c_ex rfl (L rfl)) t1 t0 (sw (c_ex rfl (L rfl)) t1 t0 (swb (c_al (k:=5) (n:=4) zv26 (.cons rfl (.cons rfl (.cons rfl (.cons rfl .nil)))) rfl (P0 _ rfl) (L rfl)) t0 t0 ⟨rfl,rfl⟩ (sb (c_sm sz26 (by rfl) pa4 rfl pu4) t2 t1 ?_)))))))
  refine aV (L rfl) rfl (zn [(0,_),(3,_),(5,_),(6,_)] [(3,_),(5,_)] t4 t2 (exr (mV (L rfl) rfl (cK hG hX cl51 hN (rqparse_says bs hbl) (L rfl) t1 (mV (L rfl) rfl (sw (c_ex rfl (L rfl)) t1 t0 (sw (c_ex rfl (L rfl)) t1 t0 (swb (c_al (k:=7) (n:=4) zv26 (.cons rfl (.cons rfl (.cons rfl (.cons rfl .nil)))) rfl (P0 _ rfl) (L rfl)) t0 t0 ⟨rfl,rfl⟩ (sb (c_sm sz26 (by rfl) pa4 rfl pu4) t2 t1 ?_)))))))))
  refine aV (L rfl) rfl (zn [(0,_),(3,_),(5,_),(6,_),(7,_),(8,_)] [(3,_),(5,_),(7,_)] t6 t3 (ex_seq ?_))
  refine exm (sl:=[(59,vb false)]) (sl0:=[(3,_)]) (hb:=[]) (hb0:=[(3,_)]) t1 t1 ?_ ?_
  ·by_cases hE : pqE bs = 0; have pr : Says E 52 [.agg (cR (pqV bs))] (Go.Proofs.YtcifhkfpmhifaaaGreatDoor.N.pS bs):=by { obtain ⟨b,e1,e2,e3⟩:=print_parse hE; rw [e1]; have:=qprint_says b (by omega); rwa [e2] at this }
   ·refine lp4 ag26 sz26 (L rfl) rfl rfl (lp4 ag26 sz26 (L rfl) rfl rfl (cK hG hX cl16 hN (k_sameR pS) (L rfl) t2 (sw (c_no (L rfl)) t1 t0 (mV (L rfl) rfl (gV (g:=45) rfl rfl (L rfl) rfl rfl (gV (g:=45) rfl rfl (L rfl) rfl rfl (swg (g:=45) rfl rfl (c_n (L rfl)) rfl t2 t0 (sw (c_pf rfl (L rfl)) t2 t0 (mV (L rfl) rfl (gV (g:=50) rfl (by simp) (L rfl) rfl rfl ?_))))))))))
    refine swg (g:=50) rfl (by simp) (c_e (L rfl)) rfl t2 t0 ?_
    refine gV (g:=50) rfl (by simp) (L rfl) rfl rfl ?_
    refine swg (g:=53) rfl (decide_eq_true hE) (c_lp ag26 sz26 (by rfl) (by exact al4) rfl (L rfl)) rfl t1 t1 ?_
    refine swg (g:=53) rfl (decide_eq_true hE) (c_c hG hX cl52 rfl hN pr (L rfl)) rfl t1 t0 (gV (g:=53) rfl (decide_eq_true hE) (L rfl) rfl rfl (swg (g:=53) rfl (decide_eq_true hE) (c_sN (L rfl)) rfl t2 t0 (swg (g:=50) rfl (by simp) (c_pt (decide_eq_true hE) (L rfl)) rfl t2 t0 ?_)))
    refine sw (c_pf (by simp) (L rfl)) t2 t0 ?_
    exact seq_nil ⟨⟨ob rfl (by simp),rfl,trivial⟩,t1⟩
   ·refine lp4 ag26 sz26 (L rfl) rfl rfl (lp4 ag26 sz26 (L rfl) rfl rfl (cK hG hX cl16 hN (k_sameR pS) (L rfl) t2 (sw (c_no (L rfl)) t1 t0 (mV (L rfl) rfl (gV (g:=45) rfl rfl (L rfl) rfl rfl (gV (g:=45) rfl rfl (L rfl) rfl rfl (swg (g:=45) rfl rfl (c_n (L rfl)) rfl t2 t0 (sw (c_pf rfl (L rfl)) t2 t0 (mV (L rfl) rfl (gV (g:=50) rfl (by simp) (L rfl) rfl rfl ?_))))))))))
    refine swg (g:=50) rfl (by simp) (c_e (L rfl)) rfl t2 t0 ?_
    refine gV (g:=50) rfl (by simp) (L rfl) rfl rfl ?_
    refine swn (g:=53) rfl (decide_eq_false hE) (L rfl) rfl (swn (g:=53) rfl (decide_eq_false hE) (L rfl) rfl (swn (g:=53) rfl (decide_eq_false hE) (L rfl) rfl (swn (g:=53) rfl (decide_eq_false hE) (L rfl) rfl (swg (g:=50) rfl (by simp) (c_pf (decide_eq_false hE) (L rfl)) rfl t2 t0 ?_))))
    refine sw (c_pf (by simp) (L rfl)) t2 t0 ?_
    exact seq_nil ⟨⟨ob rfl rfl,rfl,trivial⟩,t1⟩
  refine ex_if rfl (fun hd=>?_) (fun hd=>?_)
  ·cases hd
  ·refine ex_skip (show Exec _ _ _ _ _ from ?_)
   refine exr (lp4 ag26 sz26 (L rfl) rfl rfl (cK hG hX cl52 hN (qprint_says a (by omega)) (L rfl) t1 ?_))
   refine aV (L rfl) rfl (zn [(3,_),(9,_)] [(3,_)] t2 t1 (exr (mV (L rfl) rfl (cK hG hX cl50 hN pp (L rfl) t1 (mV (L rfl) rfl (sw (c_ex rfl (L rfl)) t1 t0 (sw (c_ex rfl (L rfl)) t1 t0 (swb (c_al (k:=10) (n:=4) zv26 (.cons rfl (.cons rfl (.cons rfl (.cons rfl .nil)))) rfl (P0 _ rfl) (L rfl)) t0 t0 ⟨rfl,rfl⟩ (sb (c_sm sz26 (by rfl) pa4 rfl pu4) t2 t1 ?_)))))))))
   refine aV (L rfl) rfl (zn [(3,_),(9,_),(10,_),(11,_)] [(3,_),(10,_)] t4 t2 (exr (cK hG hX cl10 hN sane_says (L rfl) t0 (mV (L rfl) rfl (gV (g:=68) rfl rfl (L rfl) rfl rfl (swg (g:=68) rfl rfl (c_lp ag26 sz26 (by rfl) (by exact al4) rfl (L rfl)) rfl t1 t1 ?_))))))
   refine swg (g:=68) rfl rfl (c_c hG hX cl53 rfl hN (rqprint_says a (by omega)) (L rfl)) rfl t1 t0 ?_
   refine swg (g:=68) rfl rfl (c_se (L rfl)) rfl t2 t0 (sw (c_pt rfl (L rfl)) t2 t0 (mV (L rfl) rfl (gV (g:=74) rfl (decide_eq_true rfl) (L rfl) rfl rfl (swg (g:=74) rfl (decide_eq_true rfl) (c_e (L rfl)) rfl t2 t0 (sw (c_pt (decide_eq_true rfl) (L rfl)) t2 t0 (mV (L rfl) rfl (swg (g:=78) rfl rfl (c_lp ag26 sz26 (by rfl) (by exact al4) rfl (L rfl)) rfl t1 t1 ?_)))))))
   refine swg (g:=78) rfl rfl (c_lp ag26 sz26 (by rfl) (by exact al4) rfl (L rfl)) rfl t1 t1 ?_
   refine swg (g:=78) rfl rfl (c_c hG hX cl16 rfl hN (k_same1 a (by omega)) (L rfl)) rfl t2 t0 ?_
   refine sw (c_pt rfl (L rfl)) t2 t0 (aV (L rfl) rfl (zn [(4,_)] [] t1 trivial (ex_ret ?_)))
   refine ⟨.inr rfl,ResVs.cast (.cons (.tmp rfl) .nil) ?_⟩
   rfl
end Go.Proofs.YtcifhkfpmhifaaaGreatDoor.N
