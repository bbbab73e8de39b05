-- WRITTEN BY A PROGRAM OF THIS SESSION (wip/xprint) out of the translation. Not trusted: Lean checks it.
import Derived.Test.YtjmflccbddjlhaaPFmx0
import Derived.Test.YtjmflccbddjlhaaPFmx2
import Derived.Test.YtjmflccbddjlhaaPFmx5
import Derived.Test.YtjmflccbddjlhaaPFmx13
namespace Go.Proofs.Ytjmflccbddjlhaa.PFm
open Go.RowKit Go.Proofs.YtjmflccbddjlhaaW.PrintWords Go.Proofs.YtjmflccbddjlhaaW.PrintLast Go.Proofs.YtjmflccbddjlhaaW.PrintMore
attribute [local go_sem] max2_int min2_int max_two min_two max_three min_three max_four min_four   -- for this text's walks alone
set_option linter.unusedVariables false
set_option linter.unusedSimpArgs false

/-! ### versalref14_Segs: function 15 -/
def versalref14_Segs.l0 : Nat → List (List (S36)) → List (S34) → Int → Int → Int → Int → Int → Int → Int → Option ((List (S34)))
 | 0,_,_,_,_,_,_,_,_,_=>none
 | k+1,x0,x5,x6,x429000,x429001,x429002,x429003,x429004,x429005=>if x6 < (x0.length : Int) then (if 0≤x6 then ((versalref14_contour.f k (rd_L6 x0 x6) x429000 x429001 x429002 x429003 x429004 x429005).bind fun t430=>(if x5.length+t430.length < 4398046511104 then (versalref14_Segs.l0 k x0 (x5 ++ t430) (wrap64 (x6+1)) x429000 x429001 x429002 x429003 x429004 x429005) else (none))) else (none)) else (some x5)
def versalref14_Segs.f (k : Nat) (l0 : List (List (S36))) (a1_0 : Int) (a1_1 : Int) (a1_2 : Int) (a1_3 : Int) (a1_4 : Int) (a1_5 : Int) : Option ((List (S34))):=versalref14_Segs.l0 k l0 ([] : List (S34)) 0 a1_0 a1_1 a1_2 a1_3 a1_4 a1_5
theorem versalref14_Segs.mono_l : ∀ k,(∀ y0 y1 y2 y3 y4 y5 y6 y7 y8,LeO (versalref14_Segs.l0 k y0 y1 y2 y3 y4 y5 y6 y7 y8) (versalref14_Segs.l0 (k+1) y0 y1 y2 y3 y4 y5 y6 y7 y8))
 | 0=>fun _ _ _ _ _ _ _ _ _ r h=>by simp [versalref14_Segs.l0] at h
 | k+1=>by
  have ih0:=versalref14_Segs.mono_l k
  ·intro y0 y1 y2 y3 y4 y5 y6 y7 y8
   unfold versalref14_Segs.l0
   repeat' first
   | (with_reducible exact ih0 _ _ _ _ _ _ _ _ _)
   | (with_reducible exact versalref14_contour.mono _ _ _ _ _ _ _ _)
   | (with_reducible exact LeO.refl _)
   | (with_reducible exact LeO.none _)
   | (with_reducible refine LeO.ite ?_ ?_)
   | (with_reducible refine LeO.bind ?_ (fun _=>?_))
   | exact ih0 _ _ _ _ _ _ _ _ _
   | exact versalref14_contour.mono _ _ _ _ _ _ _ _
   | exact LeO.none _
   | refine LeO.ite ?_ ?_
   | refine LeO.bind ?_ (fun _=>?_)
theorem versalref14_Segs.mono : ∀ a0 a1 a2 a3 a4 a5 a6 k,LeO (versalref14_Segs.f k a0 a1 a2 a3 a4 a5 a6) (versalref14_Segs.f (k+1) a0 a1 a2 a3 a4 a5 a6):=by
 intro a0 a1 a2 a3 a4 a5 a6 k
 have ih0:=versalref14_Segs.mono_l k
 unfold versalref14_Segs.f
 repeat' first
   | (with_reducible exact ih0 _ _ _ _ _ _ _ _ _)
   | (with_reducible exact versalref14_contour.mono _ _ _ _ _ _ _ _)
   | (with_reducible exact LeO.refl _)
   | (with_reducible exact LeO.none _)
   | (with_reducible refine LeO.ite ?_ ?_)
   | (with_reducible refine LeO.bind ?_ (fun _=>?_))
   | exact ih0 _ _ _ _ _ _ _ _ _
   | exact versalref14_contour.mono _ _ _ _ _ _ _ _
   | exact LeO.none _
   | refine LeO.ite ?_ ?_
   | refine LeO.bind ?_ (fun _=>?_)
def versalref14_Segs.T5 : Bool × List (List Nat × List Nat):=(true,[([],[]),([],[]),([],[]),([1,2],[1,2]),([3],[3]),([],[]),([4,5],[4,5]),([0,6,6],[0,6]),([7,7,0,1,2,3,4,5,6,7],[0,7])])
def versalref14_Segs.B5 : List Nat:=[0,0,0,6,14,0,62,127,255]
theorem versalref14_Segs.tab5 : rtab .any (opsOf Try.f15 5)=versalref14_Segs.T5:=by kernel_rfl
theorem versalref14_Segs.bits5 : waitsOk versalref14_Segs.T5.2 versalref14_Segs.B5=true:=by kernel_rfl
set_option maxHeartbeats 8000000 in
set_option maxRecDepth 100000 in
theorem versalref14_Segs.calls (k : Nat) (A0 : Option Addr) (c0 : Nat) (l0 : List (List (S36))) (a1_0 : Int) (a1_1 : Int) (a1_2 : Int) (a1_3 : Int) (a1_4 : Int) (a1_5 : Int) (r : List (S34)) (w : World) (hr0 : Kd.C (Kd.slice 36 k36) w A0 l0.length l0) (hc0 : l0.length≤c0) (h : versalref14_Segs.f k l0 a1_0 a1_1 a1_2 a1_3 a1_4 a1_5=some r) :
  Calls Try.prog 15 #[.slice A0 l0.length c0,.agg #[.int .i64 a1_0,.int .i64 a1_1,.int .i64 a1_2,.int .i64 a1_3,.int .i64 a1_4,.int .i64 a1_5]] w fun e w'=>∃ v0_ : Value,e=.returned (v0_)∧Kd.R k34 34 w' w.heap.size (fun _=>True) v0_ r∧Below w.heap.size w w':=by
 have hu26:=Try.underlying26
 have HR0:=amk hr0
 have HC0:=amk hc0
 clear hr0 hc0
 have HB:=amk (Below.refl w.heap.size w)
 have H : (versalref14_Segs.l0 k l0 ([] : List (S34)) 0 a1_0 a1_1 a1_2 a1_3 a1_4 a1_5)=some r:=h
 clear h
 have H':=amk H
 clear H
 go_enter Try.func15,Try.ntmps15
 go_wp2_with (first|((with_reducible refine gate_dst (N:=3) rfl ?_);refine box_event ?hg (N:=3) ?hd (cs:=#[.int .i64 a1_0,.int .i64 a1_1,.int .i64 a1_2,.int .i64 a1_3,.int .i64 a1_4,.int .i64 a1_5]) (t:=26) ?hr ?_;(case hd=>rfl);(case hg=>rfl);(case hr=>first|(go_simp;done)|(go_simp;rfl));intro gb428 hg w3 hbox hb;have n0_:=amk (below_step (by repeat (first|(with_reducible first|exact HB.out|apply bAl|apply bDN|apply bD1)|exact HB.out)) hb);have n1_:=amk (hbox);have n2_:=amk ((by rw [hg];exact (below_size (by repeat (first|(with_reducible first|exact HB.out|apply bAl|apply bDN|apply bD1)|exact HB.out))) : w.heap.size≤gb428));have n3_:=amk ((by rw [hg];exact (below_size (by repeat (first|(with_reducible first|exact HB.out|apply bAl|apply bDN|apply bD1)|exact HB.out))) : w.heap.size≤gb428));clear HB;have HB:=n0_;have BK428:=n1_;have GW428:=n2_;have GE428:=n3_;clear n0_ n1_ n2_ n3_;clear hb hbox hg))
 go_loopg [5,6] k (fun kq v5 v6 w'=>∃ (x5_1 : List (S34)) (x6_1 : Int),v6=.int .i64 x6_1∧Aside0 (versalref14_Segs.l0 kq l0 x5_1 x6_1 a1_0 a1_1 a1_2 a1_3 a1_4 a1_5=some r)∧Aside0 (kq≤k)∧Aside0 (Kd.R k34 34 w' w.heap.size (fun _=>True) v5 x5_1)∧Aside0 (w'.heap[gb428]?=some (.cells #[.int .i64 a1_0,.int .i64 a1_1,.int .i64 a1_2,.int .i64 a1_3,.int .i64 a1_4,.int .i64 a1_5] 26 (0,0)))∧Aside0 (Below w.heap.size w w'))
 case atStart=>exact ⟨(([] : List (S34))),(0),(by first|rfl|(simp;done)|(simp [*];done)),H',⟨Nat.le_refl _⟩,⟨by first|exact Kd.R_nil _ _ _ _ _|exact Kd.N_nil _ _ _ _ _|exact Kd.V_nil _ _ _ _ _|exact Kd.Q_nil _ _ _ _ _|exact Kd.S_nil _ _ _ _ _⟩,⟨by (with_reducible repeat first|apply kN|apply kD|apply kA);exact BK428.out⟩,⟨by repeat (first|(with_reducible first|exact HB.out|apply bAl|apply bDN|apply bD1|refine bSe ?_ GE428.out)|exact HB.out)⟩⟩
 case round =>
  clear H'
  try clear c1
  try clear p2
  obtain ⟨x5_1,x6_1,rfl,HA,HK1,HO_5,BK428,HB⟩:=hrel
  cases gk with
  | zero=>exact absurd HA.out (by simp [versalref14_Segs.l0])
  | succ k1 =>
   have H:=HA.out
   clear HA
   simp only [versalref14_Segs.l0] at H
   by_cases c4 : x6_1 < (l0.length : Int)
   ·rw [if_pos c4] at H
    have c4b0 : decide (x6_1 < (l0.length : Int))=true:=decide_eq_true c4
    clear c4
    by_cases c5 : 0≤x6_1
    ·rw [if_pos c5] at H
     have c5b0 : decide (0≤x6_1)=true:=decide_eq_true c5
     clear c5
     replace H:=Option.bind_eq_some_iff.mp H
     obtain ⟨t430,A60,H⟩:=H
     replace H : (if x5_1.length+t430.length < 4398046511104 then (versalref14_Segs.l0 k1 l0 (x5_1 ++ t430) (wrap64 (x6_1+1)) a1_0 a1_1 a1_2 a1_3 a1_4 a1_5) else (none))=some r:=H
     have A6:=amk A60
     clear A60
     by_cases c7 : x5_1.length+t430.length < 4398046511104
     ·rw [if_pos c7] at H
      have LMc7:=amk c7
      clear c7
      obtain ⟨y433,hy433⟩ : ∃ y_ : List (S34),y_=(x5_1 ++ t430):=⟨_,rfl⟩
      replace H : (versalref14_Segs.l0 k1 l0 y433 (wrap64 (x6_1+1)) a1_0 a1_1 a1_2 a1_3 a1_4 a1_5)=some r:=by first|(rw [hy433];with_reducible exact H)|(have H2_:=(Option.bind_some _ _).symm.trans H;rw [hy433];with_reducible exact H2_)|(have H2_:=(Option.bind_some _ _).symm.trans H;with_reducible exact H2_)|with_reducible exact H|(rw [hy433];exact H)|exact H
      have Ny433:=amk hy433
      clear hy433
      have H':=amk H
      clear H
      try go_wp2
      have n0_:=amk (Kd.R_drew HO_5.out)
      have n1_:=amk (blk_drew BK428.out)
      have n2_:=amk (bD1 HB.out)
      clear HO_5
      clear BK428
      clear HB
      have HO_5:=n0_
      have BK428:=n1_
      have HB:=n2_
      clear n0_ n1_ n2_
      have p429 : 0≤(x6_1 : Int):=of_decide_eq_true (by first|(with_reducible assumption)|assumption)
      have q429 : x6_1 < (l0.length : Int):=of_decide_eq_true (by first|(with_reducible assumption)|assumption)
      obtain ⟨ad429,A429_0,c429_0,e429,hx429_0,hl429_0,hi429_0⟩:=at_L6 HR0.out x6_1 p429 q429
      have hw429_0:=hx429_0
      cases e429
      replace hx429_0:=(HB.out.cell (cLt w _ hx429_0)).trans hx429_0
      have HR429_0:=amk hi429_0
      have HC429_0:=amk hl429_0
      clear hi429_0 hl429_0
      replace p429:=eq_true p429
      replace q429:=eq_true q429
      refine start_ (n:=9) (S:=fun w'=>w'.cell? ⟨gb428,0,none⟩=some (.int .i64 a1_0)∧w'.cell? ⟨gb428,1,none⟩=some (.int .i64 a1_1)∧w'.cell? ⟨gb428,2,none⟩=some (.int .i64 a1_2)∧w'.cell? ⟨gb428,3,none⟩=some (.int .i64 a1_3)∧w'.cell? ⟨gb428,4,none⟩=some (.int .i64 a1_4)∧w'.cell? ⟨gb428,5,none⟩=some (.int .i64 a1_5)∧w'.cell? (ad429.add (x6_1).toNat)=some (.slice A429_0 (rd_L6 l0 x6_1).length c429_0)) (ds:=[]) #[false,false,false,false,false,false,false,false,false] (by kernel_rfl) rfl rfl ⟨(blk_cell BK428.out 0).trans rfl,(blk_cell BK428.out 1).trans rfl,(blk_cell BK428.out 2).trans rfl,(blk_cell BK428.out 3).trans rfl,(blk_cell BK428.out 4).trans rfl,(blk_cell BK428.out 5).trans rfl,((HB.out.cell (cLt w _ hw429_0)).trans hw429_0)⟩ (fun hHeld=>?_);refine with_tabW versalref14_Segs.tab5 versalref14_Segs.bits5 (fun HT_ HW_=>?_)
      generalize wr.drew=w8 at HO_5 BK428 HB HR429_0 hx429_0 hHeld ⊢
      refine pure_ (i:=0) (N:=some 13) (v:=?_) (a':=?_) #[true,false,false,false,false,false,false,false,false] rfl rfl (any_of HT_.out (by kernel_rfl)) (fun _ _ _ h=>h) (Or.inl ⟨by rfl,?_⟩) ?_ ?_
      rotate_left
      ·intro w'
       go_simp
       with_reducible rfl
      rotate_left
      ·simp only [Act.put,sTA,sCZ,sCS,i64_w,i32_w]
       rfl
      refine pure_ (i:=1) (N:=some 14) (v:=?_) (a':=?_) #[true,true,false,false,false,false,false,false,false] rfl rfl (any_of HT_.out (by kernel_rfl)) (fun _ _ _ h=>h) (Or.inl ⟨by rfl,?_⟩) ?_ ?_
      rotate_left
      ·intro w'
       go_simp
       with_reducible rfl
      rotate_left
      ·simp only [Act.put,sTA,sCZ,sCS,i64_w,i32_w]
       rfl
      refine pure_ (i:=2) (N:=some 15) (v:=?_) (a':=?_) #[true,true,true,false,false,false,false,false,false] rfl rfl (any_of HT_.out (by kernel_rfl)) (fun _ _ _ h=>h) (Or.inl ⟨by rfl,?_⟩) ?_ ?_
      rotate_left
      ·intro w'
       go_simp
       with_reducible rfl
      rotate_left
      ·simp only [Act.put,sTA,sCZ,sCS,i64_w,i32_w]
       rfl
      refine pure_ (i:=3) (N:=some 16) (v:=?_) (a':=?_) #[true,true,true,true,false,false,false,false,false] rfl rfl (any_of HT_.out (by kernel_rfl)) (fun _ _ _ h=>h) (Or.inl ⟨by rfl,?_⟩) ?_ ?_
      rotate_left
      ·intro w'
       go_simp
       with_reducible rfl
      rotate_left
      ·simp only [Act.put,sTA,sCZ,sCS,i64_w,i32_w]
       rfl
      refine take_ (i:=4) (N:=some 17) (v:=?_) (a':=?_) #[true,true,true,true,true,false,false,false,false] rfl rfl (take_ofW HT_.out HW_.out (by kernel_rfl)) (fun _ _ _ h=>h) (Or.inl ⟨by rfl,?_⟩) hHeld ?_ ?_
      rotate_left
      ·rintro w' ⟨s0,s1,s2,s3,s4,s5,s6⟩
       go_simp
       with_reducible rfl
      rotate_left
      ·simp only [Act.put,sTA,sCZ,sCS,i64_w,i32_w]
       rfl
      refine take_ (i:=5) (N:=some 18) (v:=?_) (a':=?_) #[true,true,true,true,true,true,false,false,false] rfl rfl (take_ofW HT_.out HW_.out (by kernel_rfl)) (fun _ _ _ h=>h) (Or.inl ⟨by rfl,?_⟩) hHeld ?_ ?_
      rotate_left
      ·rintro w' ⟨s0,s1,s2,s3,s4,s5,s6⟩
       go_simp
       with_reducible rfl
      rotate_left
      ·simp only [Act.put,sTA,sCZ,sCS,i64_w,i32_w]
       rfl
      refine one_ (i:=6) (N:=some 19) #[true,true,true,true,true,true,true,false,false] rfl rfl (one_of HT_.out (by kernel_rfl)) (by decide) (fun K hK=>?_)
      refine goes_ Try.func36 (by kernel_rfl) rfl #[.slice A429_0 (rd_L6 l0 x6_1).length c429_0,.agg #[.int .i64 a1_0,.int .i64 a1_1,.int .i64 a1_2,.int .i64 a1_3,.int .i64 a1_4,.int .i64 a1_5]] (by rfl) rfl rfl (by (try simp only [List.map_toArray,List.map_cons,List.map_nil]);first|done|rfl|(simp only [List.length_drop,List.length_take];rfl)) ?_
      with_reducible refine (versalref14_contour.calls k1 _ _ (rd_L6 l0 x6_1) a1_0 a1_1 a1_2 a1_3 a1_4 a1_5 t430 _ ?side1 ?side2 A6.out).mono ?_
      (case side1=>repeat (first|exact (Kd.C_below HR429_0.out HB.out)|(with_reducible refine Kd.C_alloc ?_ _)|(with_reducible refine Kd.C_drewN ?_ _)|(with_reducible refine Kd.C_drew ?_)))
      (case side2=>exact HC429_0.out)
      rintro e w9 ⟨v431,rfl,ho0,hb⟩
      refine ⟨_,rfl,?_⟩
      have n0_:=amk (Kd.R_elder' (by (with_reducible repeat (first|apply Kd.R_alloc|apply Kd.R_drewN|apply Kd.R_drew));exact HO_5.out) (Kd.R_base ho0) hb)
      have n1_:=amk (Kd.R_lower (Kd.R_new' ho0 (Kd.R_lt (by (with_reducible repeat (first|apply Kd.R_alloc|apply Kd.R_drewN|apply Kd.R_drew));exact HO_5.out))) (below_size (by repeat (first|(with_reducible first|exact HB.out|apply bAl|apply bDN|apply bD1|refine bSe ?_ GE428.out)|exact HB.out))))
      have n2_:=amk (blk_below (g:=gb428) (o:=.cells #[.int .i64 a1_0,.int .i64 a1_1,.int .i64 a1_2,.int .i64 a1_3,.int .i64 a1_4,.int .i64 a1_5] 26 (0,0)) (by (with_reducible repeat first|apply kN|apply kD|apply kA);exact BK428.out) hb)
      have n3_:=amk (below_step (by repeat (first|(with_reducible first|exact HB.out|apply bAl|apply bDN|apply bD1|refine bSe ?_ GE428.out)|exact HB.out)) hb)
      clear HO_5
      clear BK428
      clear HB
      have HO_5:=n0_
      have HO432:=n1_
      have BK428:=n2_
      have HB:=n3_
      clear n0_ n1_ n2_ n3_
      (try clear hb)
      (try clear hb2)
      (try clear hk)
      (try clear hi)
      (try clear ho0)
      obtain ⟨Ao11,co11,eo11⟩:=Kd.R_slice HO432.out
      (first|subst eo11|(injection eo11 with f1_ f2_ f3_;have f4_:=f1_.symm;have f5_:=f3_.symm;clear f1_ f2_ f3_;subst f4_;subst f5_))
      refine hK.out _ _ ⟨(blk_cell BK428.out 0).trans rfl,(blk_cell BK428.out 1).trans rfl,(blk_cell BK428.out 2).trans rfl,(blk_cell BK428.out 3).trans rfl,(blk_cell BK428.out 4).trans rfl,(blk_cell BK428.out 5).trans rfl,((HB.out.cell (cLt w _ hw429_0)).trans hw429_0)⟩ (fun hHeld=>?_)
      clear hK K
      refine norm_ (a':=?_) ?_ ?_
      rotate_left
      ·show Act.put _ (some 19) _=_
       simp only [Act.put,sTA,sCZ,sCS,i64_w,i32_w]
       rfl
      refine one_ (i:=7) (N:=some 20) #[true,true,true,true,true,true,true,true,false] rfl rfl (one_of HT_.out (by kernel_rfl)) (by decide) (fun K hK=>?_)
      refine Kd.R_append_rows_step k34 (w0:=w) w.heap.size (by rfl) (.tmp 13) (.tmp 19) 31 34 (.agg #[(.int .i64 0),(.int .i64 0),(.int .i64 0),(.int .i64 0)]) 32 rfl Try.underlying31 info34 rfl (by decide) (by omega) u5 x5_1 t430 _ _ _ (fun k_=>some k_ ≠ (.slice Ao11 t430.length co11 : Value).ownBlock) (fun _=>False) rfl rfl ?aO ?aR (fun _ _ h=>h) (fun _ h=>h.elim) ?aF ?aB ?aS ?aL ?_
      (case aR=>repeat (first|exact (Kd.R_reads' HO432.out).2.2|(with_reducible refine Kd.C_alloc ?_ _)|(with_reducible refine Kd.C_drewN ?_ _)|(with_reducible refine Kd.C_drew ?_)))
      (case aB=>exact (by repeat (first|(with_reducible first|exact HB.out|apply bAl|apply bDN|apply bD1|refine bSe ?_ GE428.out)|exact HB.out)))
      (case aF=>exact (fun k_ hk=>Kd.fresh' (Kd.R_lt (by (with_reducible repeat (first|apply Kd.R_alloc|apply Kd.R_drewN|apply Kd.R_drew));exact HO432.out)) k_ hk))
      (case aO=>exact (by (with_reducible repeat (first|apply Kd.R_alloc|apply Kd.R_drewN|apply Kd.R_drew));exact Kd.R_mono HO_5.out (fun _ hk=>hk.2)))
      (case aS=>exact (below_size (by repeat (first|(with_reducible first|exact HB.out|apply bAl|apply bDN|apply bD1|refine bSe ?_ GE428.out)|exact HB.out))))
      (case aL=>have:=LMc7.out;omega)
      intro v434 w10 ho hb hg hat
      rw [← Ny433.out] at ho
      have n0_:=amk (blk_grown (g:=gb428) (o:=.cells #[.int .i64 a1_0,.int .i64 a1_1,.int .i64 a1_2,.int .i64 a1_3,.int .i64 a1_4,.int .i64 a1_5] 26 (0,0)) (by (with_reducible repeat first|apply kN|apply kD|apply kA);exact BK428.out) hg (Kd.R_ne HO_5.out BK428.out (by decide)))
      have n1_:=amk (Kd.R_after (ok:=(fun _=>True)) (by (with_reducible repeat (first|apply Kd.R_alloc|apply Kd.R_drewN|apply Kd.R_drew));exact HO432.out) hg hat)
      have n2_:=amk (hb)
      have n3_:=amk (ho)
      clear BK428
      clear HO432
      clear HB
      clear HO_5
      have BK428:=n0_
      have HO432:=n1_
      have HB:=n2_
      have HO435:=n3_
      clear n0_ n1_ n2_ n3_
      clear ho hb hg hat
      refine hK.out _ _ ⟨(blk_cell BK428.out 0).trans rfl,(blk_cell BK428.out 1).trans rfl,(blk_cell BK428.out 2).trans rfl,(blk_cell BK428.out 3).trans rfl,(blk_cell BK428.out 4).trans rfl,(blk_cell BK428.out 5).trans rfl,((HB.out.cell (cLt w _ hw429_0)).trans hw429_0)⟩ (fun hHeld=>?_)
      clear hK K
      refine norm_ (a':=?_) ?_ ?_
      rotate_left
      ·show Act.put _ (some 20) _=_
       simp only [Act.put,sTA,sCZ,sCS,i64_w,i32_w]
       rfl
      refine pure_ (i:=8) (N:=some 5) (v:=?_) (a':=?_) #[true,true,true,true,true,true,true,true,true] rfl rfl (any_of HT_.out (by kernel_rfl)) (fun _ _ _ h=>h) (Or.inl ⟨by rfl,?_⟩) ?_ ?_
      rotate_left
      ·intro w'
       go_simp
       with_reducible rfl
      rotate_left
      ·simp only [Act.put,sTA,sCZ,sCS,i64_w,i32_w]
       rfl
      refine done_ (done_of HT_.out (by kernel_rfl)) ?_
      try go_wp2
      go_roundg k1
      case measure=>have:=HK1.out;omega
      case rel=>exact ⟨(y433),(wrap64 (x6_1+1)),(by first|rfl|(simp;done)|(simp [*];done)),H',⟨by have:=HK1.out;omega⟩,⟨by (with_reducible repeat (first|apply Kd.R_alloc|apply Kd.R_drewN|apply Kd.R_drew));exact Kd.R_mono HO435.out (fun _ hk=>trivial)⟩,⟨by (with_reducible repeat first|apply kN|apply kD|apply kA);exact BK428.out⟩,⟨by repeat (first|(with_reducible first|exact HB.out|apply bAl|apply bDN|apply bD1|refine bSe ?_ GE428.out)|exact HB.out)⟩⟩
     ·rw [if_neg c7] at H
      exact absurd H (by simp)
    ·rw [if_neg c5] at H
     exact absurd H (by simp)
   ·rw [if_neg c4] at H
    have c4b0 : decide (x6_1 < (l0.length : Int))=false:=decide_eq_false c4
    clear c4
    obtain rfl:=Option.some.inj H
    go_wp2
    go_ret
    exact ⟨_,by first|rfl|(simp [errW_none,errW_some] <;> rfl)|(simp [*,errW_none,errW_some] <;> rfl),by (with_reducible repeat (first|apply Kd.R_alloc|apply Kd.R_drewN|apply Kd.R_drew));exact HO_5.out,by repeat (first|(with_reducible first|exact HB.out|apply bAl|apply bDN|apply bD1|refine bSe ?_ GE428.out)|exact HB.out)⟩

/-! ### flat_of: function 38 -/
def flat_of.f (a0_0 : Int) (a0_1 : Int) : Option (Int × Int × Bool):=(fixed_Clip.f a0_0).bind fun t438=>((fixed_Clip.f a0_1).bind fun t439=>(some (t438,t439,true)))
def flat_of.T1 : Bool × List (List Nat × List Nat):=(true,[([],[]),([0],[0]),([1],[1]),([],[]),([3],[3]),([4,2],[4]),([2,5],[2,5]),([6,5,0,1,2,3,4,5,6],[6])])
def flat_of.B1 : List Nat:=[0,1,3,0,8,31,63,127]
theorem flat_of.tab1 : rtab .any (opsOf Try.f38 1)=flat_of.T1:=by kernel_rfl
theorem flat_of.bits1 : waitsOk flat_of.T1.2 flat_of.B1=true:=by kernel_rfl
set_option maxHeartbeats 8000000 in
set_option maxRecDepth 100000 in
theorem flat_of.calls (a0_0 : Int) (a0_1 : Int) (r1 : Int) (r2 : Int) (r3 : Bool) (w : World) (h : flat_of.f a0_0 a0_1=some (r1,r2,r3)) :
  Calls Try.prog 38 #[.agg #[.int .i64 a0_0,.int .i64 a0_1]] w fun e w'=>e=.returned (.agg #[.int .i64 r1,.int .i64 r2,.bool r3])∧Below w.heap.size w w':=by
 have hu41:=Try.underlying41
 have hu78:=Try.underlying78
 have HB:=amk (Below.refl w.heap.size w)
 have H : ((fixed_Clip.f a0_0).bind fun t438=>((fixed_Clip.f a0_1).bind fun t439=>(some (t438,t439,true))))=some (r1,r2,r3):=h
 clear h
 replace H:=Option.bind_eq_some_iff.mp H
 obtain ⟨t438,A20,H⟩:=H
 replace H : ((fixed_Clip.f a0_1).bind fun t439=>(some (t438,t439,true)))=some (r1,r2,r3):=H
 have A2:=amk A20
 clear A20
 replace H:=Option.bind_eq_some_iff.mp H
 obtain ⟨t439,A30,H⟩:=H
 replace H : (some (t438,t439,true))=some (r1,r2,r3):=H
 have A3:=amk A30
 clear A30
 simp only [Option.some.injEq,Prod.mk.injEq] at H
 obtain ⟨rfl,rfl,rfl⟩:=H
 go_enter Try.func38,Try.ntmps38
 try go_wp2_with (first|((with_reducible refine gate_dst (N:=1) rfl ?_);refine box_event ?hg (N:=1) ?hd (cs:=#[.int .i64 a0_0,.int .i64 a0_1]) (t:=41) ?hr ?_;(case hd=>rfl);(case hg=>rfl);(case hr=>first|(go_simp;done)|(go_simp;rfl));intro gb436 hg w4 hbox hb;have n0_:=amk (below_step (by repeat (first|(with_reducible first|exact HB.out|apply bAl|apply bDN|apply bD1)|exact HB.out)) hb);have n1_:=amk (hbox);have n2_:=amk ((by rw [hg];exact (below_size (by repeat (first|(with_reducible first|exact HB.out|apply bAl|apply bDN|apply bD1)|exact HB.out))) : w.heap.size≤gb436));have n3_:=amk ((by rw [hg];exact (below_size (by repeat (first|(with_reducible first|exact HB.out|apply bAl|apply bDN|apply bD1)|exact HB.out))) : w.heap.size≤gb436));clear HB;have HB:=n0_;have BK436:=n1_;have GW436:=n2_;have GE436:=n3_;clear n0_ n1_ n2_ n3_;clear hb hbox hg)|((with_reducible refine gate_dst (N:=2) rfl ?_);refine box_event ?hg (N:=2) ?hd (cs:=#[.int .i64 0,.int .i64 0,.bool false]) (t:=78) ?hr ?_;(case hd=>rfl);(case hg=>rfl);(case hr=>first|(go_simp;done)|(go_simp;rfl));intro gb437 hg w5 hbox hb;have n0_:=amk (blk_below (g:=gb436) (o:=.cells #[.int .i64 a0_0,.int .i64 a0_1] 41 (0,0)) (by (with_reducible repeat first|apply kN|apply kD|apply kA);exact BK436.out) hb);have n1_:=amk (below_step (by repeat (first|(with_reducible first|exact HB.out|apply bAl|apply bDN|apply bD1|refine bSe ?_ GE436.out)|exact HB.out)) hb);have n2_:=amk (hbox);have n3_:=amk ((by rw [hg];exact (below_size (by repeat (first|(with_reducible first|exact HB.out|apply bAl|apply bDN|apply bD1|refine bSe ?_ GE436.out)|exact HB.out))) : w.heap.size≤gb437));have n4_:=amk ((by rw [hg];exact (below_size (by repeat (first|(with_reducible first|exact HB.out|apply bAl|apply bDN|apply bD1|refine bSe ?_ GE436.out)|exact HB.out))) : w.heap.size≤gb437));have n5_:=amk ((by rw [hg];exact Nat.ne_of_lt (blk_lt (g:=gb436) (o:=.cells #[.int .i64 a0_0,.int .i64 a0_1] 41 (0,0)) (by (with_reducible repeat first|apply kN|apply kD|apply kA);exact BK436.out)) : gb436 ≠ gb437));have n6_:=amk ((by rw [hg];exact Nat.ne_of_gt (blk_lt (g:=gb436) (o:=.cells #[.int .i64 a0_0,.int .i64 a0_1] 41 (0,0)) (by (with_reducible repeat first|apply kN|apply kD|apply kA);exact BK436.out)) : gb437 ≠ gb436));clear BK436;clear HB;have BK436:=n0_;have HB:=n1_;have BK437:=n2_;have GW437:=n3_;have GE437:=n4_;have NB436_437:=n5_;have NB437_436:=n6_;clear n0_ n1_ n2_ n3_ n4_ n5_ n6_;clear hb hbox hg))
 have n0_:=amk (blk_drew BK436.out)
 have n1_:=amk (blk_drew BK437.out)
 have n2_:=amk (bD1 HB.out)
 clear BK436
 clear BK437
 clear HB
 have BK436:=n0_
 have BK437:=n1_
 have HB:=n2_
 clear n0_ n1_ n2_
 refine start_ (n:=8) (S:=fun w'=>w'.cell? ⟨gb436,0,none⟩=some (.int .i64 a0_0)∧w'.cell? ⟨gb436,1,none⟩=some (.int .i64 a0_1)) (ds:=[]) #[false,false,false,false,false,false,false,false] (by kernel_rfl) rfl rfl ⟨(blk_cell BK436.out 0).trans rfl,(blk_cell BK436.out 1).trans rfl⟩ (fun hHeld=>?_);refine with_tabW flat_of.tab1 flat_of.bits1 (fun HT_ HW_=>?_)
 generalize w5.drew=w6 at BK436 BK437 HB hHeld ⊢
 refine pure_ (i:=0) (N:=some 3) (v:=?_) (a':=?_) #[true,false,false,false,false,false,false,false] rfl rfl (any_of HT_.out (by kernel_rfl)) (fun _ _ _ h=>h) (Or.inl ⟨by rfl,?_⟩) ?_ ?_
 rotate_left
 ·intro w'
  go_simp
  with_reducible rfl
 rotate_left
 ·simp only [Act.put,sTA,sCZ,sCS,i64_w,i32_w]
  rfl
 refine pure_ (i:=3) (N:=some 6) (v:=?_) (a':=?_) #[true,false,false,true,false,false,false,false] rfl rfl (any_of HT_.out (by kernel_rfl)) (fun _ _ _ h=>h) (Or.inl ⟨by rfl,?_⟩) ?_ ?_
 rotate_left
 ·intro w'
  go_simp
  with_reducible rfl
 rotate_left
 ·simp only [Act.put,sTA,sCZ,sCS,i64_w,i32_w]
  rfl
 refine take_ (i:=1) (N:=some 4) (v:=?_) (a':=?_) #[true,true,false,true,false,false,false,false] rfl rfl (take_ofW HT_.out HW_.out (by kernel_rfl)) (fun _ _ _ h=>h) (Or.inl ⟨by rfl,?_⟩) hHeld ?_ ?_
 rotate_left
 ·rintro w' ⟨s0,s1⟩
  go_simp
  with_reducible rfl
 rotate_left
 ·simp only [Act.put,sTA,sCZ,sCS,i64_w,i32_w]
  rfl
 refine take_ (i:=4) (N:=some 7) (v:=?_) (a':=?_) #[true,true,false,true,true,false,false,false] rfl rfl (take_ofW HT_.out HW_.out (by kernel_rfl)) (fun _ _ _ h=>h) (Or.inl ⟨by rfl,?_⟩) hHeld ?_ ?_
 rotate_left
 ·rintro w' ⟨s0,s1⟩
  go_simp
  with_reducible rfl
 rotate_left
 ·simp only [Act.put,sTA,sCZ,sCS,i64_w,i32_w]
  rfl
 refine one_ (i:=2) (N:=some 5) #[true,true,true,true,true,false,false,false] rfl rfl (one_of HT_.out (by kernel_rfl)) (by decide) (fun K hK=>?_)
 refine goes_ Try.func58 (by kernel_rfl) rfl #[.int .i64 a0_0] (by rfl) rfl rfl (by (try simp only [List.map_toArray,List.map_cons,List.map_nil]);first|done|rfl|(simp only [List.length_drop,List.length_take];rfl)) ?_
 with_reducible refine (fixed_Clip.calls a0_0 t438 _ A2.out).mono ?_
 rintro e w7 ⟨rfl,hb⟩
 refine ⟨_,rfl,?_⟩
 have n0_:=amk (blk_below (g:=gb436) (o:=.cells #[.int .i64 a0_0,.int .i64 a0_1] 41 (0,0)) (by (with_reducible repeat first|apply kN|apply kD|apply kA);exact BK436.out) hb)
 have n1_:=amk (blk_below (g:=gb437) (o:=.cells #[.int .i64 0,.int .i64 0,.bool false] 78 (0,0)) (by (with_reducible repeat first|apply kN|apply kD|apply kA);exact BK437.out) hb)
 have n2_:=amk (below_step (by repeat (first|(with_reducible first|exact HB.out|apply bAl|apply bDN|apply bD1|refine bSe ?_ GE436.out|refine bSe ?_ GE437.out)|exact HB.out)) hb)
 clear BK436
 clear BK437
 clear HB
 have BK436:=n0_
 have BK437:=n1_
 have HB:=n2_
 clear n0_ n1_ n2_
 (try clear hb)
 (try clear hb2)
 (try clear hk)
 (try clear hi)
 refine hK.out _ _ ⟨(blk_cell BK436.out 0).trans rfl,(blk_cell BK436.out 1).trans rfl⟩ (fun hHeld=>?_)
 clear hK K
 refine norm_ (a':=?_) ?_ ?_
 rotate_left
 ·show Act.put _ (some 5) _=_
  simp only [Act.put,sTA,sCZ,sCS,i64_w,i32_w]
  rfl
 refine one_ (i:=5) (N:=some 8) #[true,true,true,true,true,true,false,false] rfl rfl (one_of HT_.out (by kernel_rfl)) (by decide) (fun K hK=>?_)
 refine goes_ Try.func58 (by kernel_rfl) rfl #[.int .i64 a0_1] (by rfl) rfl rfl (by (try simp only [List.map_toArray,List.map_cons,List.map_nil]);first|done|rfl|(simp only [List.length_drop,List.length_take];rfl)) ?_
 with_reducible refine (fixed_Clip.calls a0_1 t439 _ A3.out).mono ?_
 rintro e w8 ⟨rfl,hb⟩
 refine ⟨_,rfl,?_⟩
 have n0_:=amk (blk_below (g:=gb436) (o:=.cells #[.int .i64 a0_0,.int .i64 a0_1] 41 (0,0)) (by (with_reducible repeat first|apply kN|apply kD|apply kA);exact BK436.out) hb)
 have n1_:=amk (blk_below (g:=gb437) (o:=.cells #[.int .i64 0,.int .i64 0,.bool false] 78 (0,0)) (by (with_reducible repeat first|apply kN|apply kD|apply kA);exact BK437.out) hb)
 have n2_:=amk (below_step (by repeat (first|(with_reducible first|exact HB.out|apply bAl|apply bDN|apply bD1|refine bSe ?_ GE436.out|refine bSe ?_ GE437.out)|exact HB.out)) hb)
 clear BK436
 clear BK437
 clear HB
 have BK436:=n0_
 have BK437:=n1_
 have HB:=n2_
 clear n0_ n1_ n2_
 (try clear hb)
 (try clear hb2)
 (try clear hk)
 (try clear hi)
 refine hK.out _ _ ⟨(blk_cell BK436.out 0).trans rfl,(blk_cell BK436.out 1).trans rfl⟩ (fun hHeld=>?_)
 clear hK K
 refine norm_ (a':=?_) ?_ ?_
 rotate_left
 ·show Act.put _ (some 8) _=_
  simp only [Act.put,sTA,sCZ,sCS,i64_w,i32_w]
  rfl
 refine pure_ (i:=6) (N:=some 9) (v:=?_) (a':=?_) #[true,true,true,true,true,true,true,false] rfl rfl (any_of HT_.out (by kernel_rfl)) (fun _ _ _ h=>h) (Or.inl ⟨by rfl,?_⟩) ?_ ?_
 rotate_left
 ·intro w'
  go_simp
  with_reducible rfl
 rotate_left
 ·simp only [Act.put,sTA,sCZ,sCS,i64_w,i32_w]
  rfl
 refine one_ (i:=7) (N:=none) #[true,true,true,true,true,true,true,true] rfl rfl (one_of HT_.out (by kernel_rfl)) (by decide) (fun K hK=>?_)
 have hs9 : w8.cell? ⟨gb437,0,none⟩=some (.int .i64 0):=(blk_cell BK437.out 0).trans rfl
 have hfs9:=blk_frozen BK437.out 0
 have hns9_0:=NB436_437.out
 have hms9_0:=NB437_436.out
 have hs10 : w8.cell? ⟨gb437,1,none⟩=some (.int .i64 0):=(blk_cell BK437.out 1).trans rfl
 have hfs10:=blk_frozen BK437.out 1
 have hns10_0:=NB436_437.out
 have hms10_0:=NB437_436.out
 have hs11 : w8.cell? ⟨gb437,2,none⟩=some (.bool false):=(blk_cell BK437.out 2).trans rfl
 have hfs11:=blk_frozen BK437.out 2
 have hns11_0:=NB436_437.out
 have hms11_0:=NB437_436.out
 refine skip_ (w1:=?_) (by rfl) rfl ?_ ?_
 rotate_left
 ·go_simp
  rfl
 refine hK.out _ _ ⟨((cell_far (p:=⟨gb437,_,none⟩) NB436_437.out _).trans (((cell_far (p:=⟨gb437,_,none⟩) NB436_437.out _).trans (((cell_far (p:=⟨gb437,_,none⟩) NB436_437.out _).trans (hHeld.1)))))),((cell_far (p:=⟨gb437,_,none⟩) NB436_437.out _).trans (((cell_far (p:=⟨gb437,_,none⟩) NB436_437.out _).trans (((cell_far (p:=⟨gb437,_,none⟩) NB436_437.out _).trans (hHeld.2))))))⟩ (fun hHeld=>?_)
 clear hK K
 refine done_ (done_of HT_.out (by kernel_rfl)) ?_
 try go_wp2
 refine bodyPost_ret (results_cell_row rfl _ _ gb437 78 #[.int .i64 t438,.int .i64 t439,.bool true] (0,0) _ rfl (by (with_reducible repeat first|apply kN|apply kD|apply kA);refine blk_put (cs:=#[.int .i64 t438,.int .i64 t439,.bool false]) ?_ 2 _ rfl;(with_reducible repeat first|apply kN|apply kD|apply kA);refine blk_put (cs:=#[.int .i64 t438,.int .i64 0,.bool false]) ?_ 1 _ rfl;(with_reducible repeat first|apply kN|apply kD|apply kA);refine blk_put (cs:=#[.int .i64 0,.int .i64 0,.bool false]) ?_ 0 _ rfl;(with_reducible repeat first|apply kN|apply kD|apply kA);exact BK437.out) Try.underlying78 rfl (by kernel_rfl)) rfl ?_
 exact ⟨by first|rfl|(simp [errW_none,errW_some] <;> rfl)|(simp [*,errW_none,errW_some] <;> rfl),by repeat (first|(with_reducible first|exact HB.out|apply bAl|apply bDN|apply bD1|refine bSe ?_ GE436.out|refine bSe ?_ GE437.out)|exact HB.out)⟩

/-! ### flat_Curve: function 16 -/
def flat_Curve.f (k : Nat) (a0_0 : Int) (a0_1 : Int) (a1_0 : Int) (a1_1 : Int) (a2_0 : Int) (a2_1 : Int) : Option ((List (S34))):=(flat_of.f a0_0 a0_1).bind fun bt443=>((flat_of.f a1_0 a1_1).bind fun bt446=>((flat_of.f a2_0 a2_1).bind fun bt449=>((flat_curve.f k bt443.1 bt443.2.1 bt443.2.2 bt446.1 bt446.2.1 bt446.2.2 bt449.1 bt449.2.1 bt449.2.2).bind fun t452=>(some t452))))
theorem flat_Curve.mono : ∀ a0 a1 a2 a3 a4 a5 k,LeO (flat_Curve.f k a0 a1 a2 a3 a4 a5) (flat_Curve.f (k+1) a0 a1 a2 a3 a4 a5):=by
 intro a0 a1 a2 a3 a4 a5 k
 unfold flat_Curve.f
 repeat' first
   | (with_reducible exact flat_curve.mono _ _ _ _ _ _ _ _ _ _)
   | (with_reducible exact LeO.refl _)
   | (with_reducible exact LeO.none _)
   | (with_reducible refine LeO.ite ?_ ?_)
   | (with_reducible refine LeO.bind ?_ (fun _=>?_))
   | exact flat_curve.mono _ _ _ _ _ _ _ _ _ _
   | exact LeO.none _
   | refine LeO.ite ?_ ?_
   | refine LeO.bind ?_ (fun _=>?_)
def flat_Curve.T1 : Bool × List (List Nat × List Nat):=(true,[([],[]),([0],[0]),([],[]),([2,1],[2]),([],[]),([4,3],[4]),([1,3,5,5],[1,3,5]),([6,6,0,1,2,3,4,5,6],[6])])
def flat_Curve.B1 : List Nat:=[0,1,0,7,0,31,63,127]
theorem flat_Curve.tab1 : rtab .any (opsOf Try.f16 1)=flat_Curve.T1:=by kernel_rfl
theorem flat_Curve.bits1 : waitsOk flat_Curve.T1.2 flat_Curve.B1=true:=by kernel_rfl
set_option maxHeartbeats 8000000 in
set_option maxRecDepth 100000 in
theorem flat_Curve.calls (k : Nat) (a0_0 : Int) (a0_1 : Int) (a1_0 : Int) (a1_1 : Int) (a2_0 : Int) (a2_1 : Int) (r : List (S34)) (w : World) (h : flat_Curve.f k a0_0 a0_1 a1_0 a1_1 a2_0 a2_1=some r) :
  Calls Try.prog 16 #[.agg #[.int .i64 a0_0,.int .i64 a0_1],.agg #[.int .i64 a1_0,.int .i64 a1_1],.agg #[.int .i64 a2_0,.int .i64 a2_1]] w fun e w'=>∃ v0_ : Value,e=.returned (v0_)∧Kd.R k34 34 w' w.heap.size (fun _=>True) v0_ r∧Below w.heap.size w w':=by
 have hu41:=Try.underlying41
 have HB:=amk (Below.refl w.heap.size w)
 have H : ((flat_of.f a0_0 a0_1).bind fun bt443=>((flat_of.f a1_0 a1_1).bind fun bt446=>((flat_of.f a2_0 a2_1).bind fun bt449=>((flat_curve.f k bt443.1 bt443.2.1 bt443.2.2 bt446.1 bt446.2.1 bt446.2.2 bt449.1 bt449.2.1 bt449.2.2).bind fun t452=>(some t452)))))=some r:=h
 clear h
 replace H:=Option.bind_eq_some_iff.mp H
 obtain ⟨⟨t443,t444,t445⟩,A40,H⟩:=H
 replace H : ((flat_of.f a1_0 a1_1).bind fun bt446=>((flat_of.f a2_0 a2_1).bind fun bt449=>((flat_curve.f k t443 t444 t445 bt446.1 bt446.2.1 bt446.2.2 bt449.1 bt449.2.1 bt449.2.2).bind fun t452=>(some t452))))=some r:=H
 have A4:=amk A40
 clear A40
 replace H:=Option.bind_eq_some_iff.mp H
 obtain ⟨⟨t446,t447,t448⟩,A50,H⟩:=H
 replace H : ((flat_of.f a2_0 a2_1).bind fun bt449=>((flat_curve.f k t443 t444 t445 t446 t447 t448 bt449.1 bt449.2.1 bt449.2.2).bind fun t452=>(some t452)))=some r:=H
 have A5:=amk A50
 clear A50
 replace H:=Option.bind_eq_some_iff.mp H
 obtain ⟨⟨t449,t450,t451⟩,A60,H⟩:=H
 replace H : ((flat_curve.f k t443 t444 t445 t446 t447 t448 t449 t450 t451).bind fun t452=>(some t452))=some r:=H
 have A6:=amk A60
 clear A60
 replace H:=Option.bind_eq_some_iff.mp H
 obtain ⟨t452,A70,H⟩:=H
 replace H : (some t452)=some r:=H
 have A7:=amk A70
 clear A70
 obtain rfl:=Option.some.inj H
 go_enter Try.func16,Try.ntmps16
 try go_wp2_with (first|((with_reducible refine gate_dst (N:=3) rfl ?_);refine box_event ?hg (N:=3) ?hd (cs:=#[.int .i64 a0_0,.int .i64 a0_1]) (t:=41) ?hr ?_;(case hd=>rfl);(case hg=>rfl);(case hr=>first|(go_simp;done)|(go_simp;rfl));intro gb440 hg w8 hbox hb;have n0_:=amk (below_step (by repeat (first|(with_reducible first|exact HB.out|apply bAl|apply bDN|apply bD1)|exact HB.out)) hb);have n1_:=amk (hbox);have n2_:=amk ((by rw [hg];exact (below_size (by repeat (first|(with_reducible first|exact HB.out|apply bAl|apply bDN|apply bD1)|exact HB.out))) : w.heap.size≤gb440));have n3_:=amk ((by rw [hg];exact (below_size (by repeat (first|(with_reducible first|exact HB.out|apply bAl|apply bDN|apply bD1)|exact HB.out))) : w.heap.size≤gb440));clear HB;have HB:=n0_;have BK440:=n1_;have GW440:=n2_;have GE440:=n3_;clear n0_ n1_ n2_ n3_;clear hb hbox hg)|((with_reducible refine gate_dst (N:=4) rfl ?_);refine box_event ?hg (N:=4) ?hd (cs:=#[.int .i64 a1_0,.int .i64 a1_1]) (t:=41) ?hr ?_;(case hd=>rfl);(case hg=>rfl);(case hr=>first|(go_simp;done)|(go_simp;rfl));intro gb441 hg w9 hbox hb;have n0_:=amk (blk_below (g:=gb440) (o:=.cells #[.int .i64 a0_0,.int .i64 a0_1] 41 (0,0)) (by (with_reducible repeat first|apply kN|apply kD|apply kA);exact BK440.out) hb);have n1_:=amk (below_step (by repeat (first|(with_reducible first|exact HB.out|apply bAl|apply bDN|apply bD1|refine bSe ?_ GE440.out)|exact HB.out)) hb);have n2_:=amk (hbox);have n3_:=amk ((by rw [hg];exact (below_size (by repeat (first|(with_reducible first|exact HB.out|apply bAl|apply bDN|apply bD1|refine bSe ?_ GE440.out)|exact HB.out))) : w.heap.size≤gb441));have n4_:=amk ((by rw [hg];exact (below_size (by repeat (first|(with_reducible first|exact HB.out|apply bAl|apply bDN|apply bD1|refine bSe ?_ GE440.out)|exact HB.out))) : w.heap.size≤gb441));have n5_:=amk ((by rw [hg];exact Nat.ne_of_lt (blk_lt (g:=gb440) (o:=.cells #[.int .i64 a0_0,.int .i64 a0_1] 41 (0,0)) (by (with_reducible repeat first|apply kN|apply kD|apply kA);exact BK440.out)) : gb440 ≠ gb441));have n6_:=amk ((by rw [hg];exact Nat.ne_of_gt (blk_lt (g:=gb440) (o:=.cells #[.int .i64 a0_0,.int .i64 a0_1] 41 (0,0)) (by (with_reducible repeat first|apply kN|apply kD|apply kA);exact BK440.out)) : gb441 ≠ gb440));clear BK440;clear HB;have BK440:=n0_;have HB:=n1_;have BK441:=n2_;have GW441:=n3_;have GE441:=n4_;have NB440_441:=n5_;have NB441_440:=n6_;clear n0_ n1_ n2_ n3_ n4_ n5_ n6_;clear hb hbox hg)|((with_reducible refine gate_dst (N:=5) rfl ?_);refine box_event ?hg (N:=5) ?hd (cs:=#[.int .i64 a2_0,.int .i64 a2_1]) (t:=41) ?hr ?_;(case hd=>rfl);(case hg=>rfl);(case hr=>first|(go_simp;done)|(go_simp;rfl));intro gb442 hg w10 hbox hb;have n0_:=amk (blk_below (g:=gb440) (o:=.cells #[.int .i64 a0_0,.int .i64 a0_1] 41 (0,0)) (by (with_reducible repeat first|apply kN|apply kD|apply kA);exact BK440.out) hb);have n1_:=amk (blk_below (g:=gb441) (o:=.cells #[.int .i64 a1_0,.int .i64 a1_1] 41 (0,0)) (by (with_reducible repeat first|apply kN|apply kD|apply kA);exact BK441.out) hb);have n2_:=amk (below_step (by repeat (first|(with_reducible first|exact HB.out|apply bAl|apply bDN|apply bD1|refine bSe ?_ GE440.out|refine bSe ?_ GE441.out)|exact HB.out)) hb);have n3_:=amk (hbox);have n4_:=amk ((by rw [hg];exact (below_size (by repeat (first|(with_reducible first|exact HB.out|apply bAl|apply bDN|apply bD1|refine bSe ?_ GE440.out|refine bSe ?_ GE441.out)|exact HB.out))) : w.heap.size≤gb442));have n5_:=amk ((by rw [hg];exact (below_size (by repeat (first|(with_reducible first|exact HB.out|apply bAl|apply bDN|apply bD1|refine bSe ?_ GE440.out|refine bSe ?_ GE441.out)|exact HB.out))) : w.heap.size≤gb442));have n6_:=amk ((by rw [hg];exact Nat.ne_of_lt (blk_lt (g:=gb440) (o:=.cells #[.int .i64 a0_0,.int .i64 a0_1] 41 (0,0)) (by (with_reducible repeat first|apply kN|apply kD|apply kA);exact BK440.out)) : gb440 ≠ gb442));have n7_:=amk ((by rw [hg];exact Nat.ne_of_gt (blk_lt (g:=gb440) (o:=.cells #[.int .i64 a0_0,.int .i64 a0_1] 41 (0,0)) (by (with_reducible repeat first|apply kN|apply kD|apply kA);exact BK440.out)) : gb442 ≠ gb440));have n8_:=amk ((by rw [hg];exact Nat.ne_of_lt (blk_lt (g:=gb441) (o:=.cells #[.int .i64 a1_0,.int .i64 a1_1] 41 (0,0)) (by (with_reducible repeat first|apply kN|apply kD|apply kA);exact BK441.out)) : gb441 ≠ gb442));have n9_:=amk ((by rw [hg];exact Nat.ne_of_gt (blk_lt (g:=gb441) (o:=.cells #[.int .i64 a1_0,.int .i64 a1_1] 41 (0,0)) (by (with_reducible repeat first|apply kN|apply kD|apply kA);exact BK441.out)) : gb442 ≠ gb441));clear BK440;clear BK441;clear HB;have BK440:=n0_;have BK441:=n1_;have HB:=n2_;have BK442:=n3_;have GW442:=n4_;have GE442:=n5_;have NB440_442:=n6_;have NB442_440:=n7_;have NB441_442:=n8_;have NB442_441:=n9_;clear n0_ n1_ n2_ n3_ n4_ n5_ n6_ n7_ n8_ n9_;clear hb hbox hg))
 have n0_:=amk (blk_drew BK440.out)
 have n1_:=amk (blk_drew BK441.out)
 have n2_:=amk (blk_drew BK442.out)
 have n3_:=amk (bD1 HB.out)
 clear BK440
 clear BK441
 clear BK442
 clear HB
 have BK440:=n0_
 have BK441:=n1_
 have BK442:=n2_
 have HB:=n3_
 clear n0_ n1_ n2_ n3_
 refine start_ (n:=8) (S:=fun w'=>w'.cell? ⟨gb440,0,none⟩=some (.int .i64 a0_0)∧w'.cell? ⟨gb440,1,none⟩=some (.int .i64 a0_1)∧w'.cell? ⟨gb441,0,none⟩=some (.int .i64 a1_0)∧w'.cell? ⟨gb441,1,none⟩=some (.int .i64 a1_1)∧w'.cell? ⟨gb442,0,none⟩=some (.int .i64 a2_0)∧w'.cell? ⟨gb442,1,none⟩=some (.int .i64 a2_1)) (ds:=[]) #[false,false,false,false,false,false,false,false] (by kernel_rfl) rfl rfl ⟨(blk_cell BK440.out 0).trans rfl,(blk_cell BK440.out 1).trans rfl,(blk_cell BK441.out 0).trans rfl,(blk_cell BK441.out 1).trans rfl,(blk_cell BK442.out 0).trans rfl,(blk_cell BK442.out 1).trans rfl⟩ (fun hHeld=>?_);refine with_tabW flat_Curve.tab1 flat_Curve.bits1 (fun HT_ HW_=>?_)
 generalize w10.drew=w11 at BK440 BK441 BK442 HB hHeld ⊢
 refine take_ (i:=0) (N:=some 7) (v:=?_) (a':=?_) #[true,false,false,false,false,false,false,false] rfl rfl (take_ofW HT_.out HW_.out (by kernel_rfl)) (fun _ _ _ h=>h) (Or.inl ⟨by rfl,?_⟩) hHeld ?_ ?_
 rotate_left
 ·rintro w' ⟨s0,s1,s2,s3,s4,s5⟩
  go_simp
  with_reducible rfl
 rotate_left
 ·simp only [Act.put,sTA,sCZ,sCS,i64_w,i32_w]
  rfl
 refine take_ (i:=2) (N:=some 9) (v:=?_) (a':=?_) #[true,false,true,false,false,false,false,false] rfl rfl (take_ofW HT_.out HW_.out (by kernel_rfl)) (fun _ _ _ h=>h) (Or.inl ⟨by rfl,?_⟩) hHeld ?_ ?_
 rotate_left
 ·rintro w' ⟨s0,s1,s2,s3,s4,s5⟩
  go_simp
  with_reducible rfl
 rotate_left
 ·simp only [Act.put,sTA,sCZ,sCS,i64_w,i32_w]
  rfl
 refine take_ (i:=4) (N:=some 11) (v:=?_) (a':=?_) #[true,false,true,false,true,false,false,false] rfl rfl (take_ofW HT_.out HW_.out (by kernel_rfl)) (fun _ _ _ h=>h) (Or.inl ⟨by rfl,?_⟩) hHeld ?_ ?_
 rotate_left
 ·rintro w' ⟨s0,s1,s2,s3,s4,s5⟩
  go_simp
  with_reducible rfl
 rotate_left
 ·simp only [Act.put,sTA,sCZ,sCS,i64_w,i32_w]
  rfl
 refine one_ (i:=1) (N:=some 8) #[true,true,true,false,true,false,false,false] rfl rfl (one_of HT_.out (by kernel_rfl)) (by decide) (fun K hK=>?_)
 refine goes_ Try.func38 (by kernel_rfl) rfl #[.agg #[.int .i64 a0_0,.int .i64 a0_1]] (by rfl) rfl rfl (by (try simp only [List.map_toArray,List.map_cons,List.map_nil]);first|done|rfl|(simp only [List.length_drop,List.length_take];rfl)) ?_
 with_reducible refine (flat_of.calls a0_0 a0_1 t443 t444 t445 _ A4.out).mono ?_
 rintro e w12 ⟨rfl,hb⟩
 refine ⟨_,rfl,?_⟩
 have n0_:=amk (blk_below (g:=gb440) (o:=.cells #[.int .i64 a0_0,.int .i64 a0_1] 41 (0,0)) (by (with_reducible repeat first|apply kN|apply kD|apply kA);exact BK440.out) hb)
 have n1_:=amk (blk_below (g:=gb441) (o:=.cells #[.int .i64 a1_0,.int .i64 a1_1] 41 (0,0)) (by (with_reducible repeat first|apply kN|apply kD|apply kA);exact BK441.out) hb)
 have n2_:=amk (blk_below (g:=gb442) (o:=.cells #[.int .i64 a2_0,.int .i64 a2_1] 41 (0,0)) (by (with_reducible repeat first|apply kN|apply kD|apply kA);exact BK442.out) hb)
 have n3_:=amk (below_step (by repeat (first|(with_reducible first|exact HB.out|apply bAl|apply bDN|apply bD1|refine bSe ?_ GE440.out|refine bSe ?_ GE441.out|refine bSe ?_ GE442.out)|exact HB.out)) hb)
 clear BK440
 clear BK441
 clear BK442
 clear HB
 have BK440:=n0_
 have BK441:=n1_
 have BK442:=n2_
 have HB:=n3_
 clear n0_ n1_ n2_ n3_
 (try clear hb)
 (try clear hb2)
 (try clear hk)
 (try clear hi)
 refine hK.out _ _ ⟨(blk_cell BK440.out 0).trans rfl,(blk_cell BK440.out 1).trans rfl,(blk_cell BK441.out 0).trans rfl,(blk_cell BK441.out 1).trans rfl,(blk_cell BK442.out 0).trans rfl,(blk_cell BK442.out 1).trans rfl⟩ (fun hHeld=>?_)
 clear hK K
 refine norm_ (a':=?_) ?_ ?_
 rotate_left
 ·show Act.put _ (some 8) _=_
  simp only [Act.put,sTA,sCZ,sCS,i64_w,i32_w]
  rfl
 refine one_ (i:=3) (N:=some 10) #[true,true,true,true,true,false,false,false] rfl rfl (one_of HT_.out (by kernel_rfl)) (by decide) (fun K hK=>?_)
 refine goes_ Try.func38 (by kernel_rfl) rfl #[.agg #[.int .i64 a1_0,.int .i64 a1_1]] (by rfl) rfl rfl (by (try simp only [List.map_toArray,List.map_cons,List.map_nil]);first|done|rfl|(simp only [List.length_drop,List.length_take];rfl)) ?_
 with_reducible refine (flat_of.calls a1_0 a1_1 t446 t447 t448 _ A5.out).mono ?_
 rintro e w13 ⟨rfl,hb⟩
 refine ⟨_,rfl,?_⟩
 have n0_:=amk (blk_below (g:=gb440) (o:=.cells #[.int .i64 a0_0,.int .i64 a0_1] 41 (0,0)) (by (with_reducible repeat first|apply kN|apply kD|apply kA);exact BK440.out) hb)
 have n1_:=amk (blk_below (g:=gb441) (o:=.cells #[.int .i64 a1_0,.int .i64 a1_1] 41 (0,0)) (by (with_reducible repeat first|apply kN|apply kD|apply kA);exact BK441.out) hb)
 have n2_:=amk (blk_below (g:=gb442) (o:=.cells #[.int .i64 a2_0,.int .i64 a2_1] 41 (0,0)) (by (with_reducible repeat first|apply kN|apply kD|apply kA);exact BK442.out) hb)
 have n3_:=amk (below_step (by repeat (first|(with_reducible first|exact HB.out|apply bAl|apply bDN|apply bD1|refine bSe ?_ GE440.out|refine bSe ?_ GE441.out|refine bSe ?_ GE442.out)|exact HB.out)) hb)
 clear BK440
 clear BK441
 clear BK442
 clear HB
 have BK440:=n0_
 have BK441:=n1_
 have BK442:=n2_
 have HB:=n3_
 clear n0_ n1_ n2_ n3_
 (try clear hb)
 (try clear hb2)
 (try clear hk)
 (try clear hi)
 refine hK.out _ _ ⟨(blk_cell BK440.out 0).trans rfl,(blk_cell BK440.out 1).trans rfl,(blk_cell BK441.out 0).trans rfl,(blk_cell BK441.out 1).trans rfl,(blk_cell BK442.out 0).trans rfl,(blk_cell BK442.out 1).trans rfl⟩ (fun hHeld=>?_)
 clear hK K
 refine norm_ (a':=?_) ?_ ?_
 rotate_left
 ·show Act.put _ (some 10) _=_
  simp only [Act.put,sTA,sCZ,sCS,i64_w,i32_w]
  rfl
 refine one_ (i:=5) (N:=some 12) #[true,true,true,true,true,true,false,false] rfl rfl (one_of HT_.out (by kernel_rfl)) (by decide) (fun K hK=>?_)
 refine goes_ Try.func38 (by kernel_rfl) rfl #[.agg #[.int .i64 a2_0,.int .i64 a2_1]] (by rfl) rfl rfl (by (try simp only [List.map_toArray,List.map_cons,List.map_nil]);first|done|rfl|(simp only [List.length_drop,List.length_take];rfl)) ?_
 with_reducible refine (flat_of.calls a2_0 a2_1 t449 t450 t451 _ A6.out).mono ?_
 rintro e w14 ⟨rfl,hb⟩
 refine ⟨_,rfl,?_⟩
 have n0_:=amk (blk_below (g:=gb440) (o:=.cells #[.int .i64 a0_0,.int .i64 a0_1] 41 (0,0)) (by (with_reducible repeat first|apply kN|apply kD|apply kA);exact BK440.out) hb)
 have n1_:=amk (blk_below (g:=gb441) (o:=.cells #[.int .i64 a1_0,.int .i64 a1_1] 41 (0,0)) (by (with_reducible repeat first|apply kN|apply kD|apply kA);exact BK441.out) hb)
 have n2_:=amk (blk_below (g:=gb442) (o:=.cells #[.int .i64 a2_0,.int .i64 a2_1] 41 (0,0)) (by (with_reducible repeat first|apply kN|apply kD|apply kA);exact BK442.out) hb)
 have n3_:=amk (below_step (by repeat (first|(with_reducible first|exact HB.out|apply bAl|apply bDN|apply bD1|refine bSe ?_ GE440.out|refine bSe ?_ GE441.out|refine bSe ?_ GE442.out)|exact HB.out)) hb)
 clear BK440
 clear BK441
 clear BK442
 clear HB
 have BK440:=n0_
 have BK441:=n1_
 have BK442:=n2_
 have HB:=n3_
 clear n0_ n1_ n2_ n3_
 (try clear hb)
 (try clear hb2)
 (try clear hk)
 (try clear hi)
 refine hK.out _ _ ⟨(blk_cell BK440.out 0).trans rfl,(blk_cell BK440.out 1).trans rfl,(blk_cell BK441.out 0).trans rfl,(blk_cell BK441.out 1).trans rfl,(blk_cell BK442.out 0).trans rfl,(blk_cell BK442.out 1).trans rfl⟩ (fun hHeld=>?_)
 clear hK K
 refine norm_ (a':=?_) ?_ ?_
 rotate_left
 ·show Act.put _ (some 12) _=_
  simp only [Act.put,sTA,sCZ,sCS,i64_w,i32_w]
  rfl
 refine one_ (i:=6) (N:=some 13) #[true,true,true,true,true,true,true,false] rfl rfl (one_of HT_.out (by kernel_rfl)) (by decide) (fun K hK=>?_)
 refine goes_ Try.func37 (by kernel_rfl) rfl #[.agg #[.int .i64 t443,.int .i64 t444,.bool t445],.agg #[.int .i64 t446,.int .i64 t447,.bool t448],.agg #[.int .i64 t449,.int .i64 t450,.bool t451]] (by rfl) rfl rfl (by (try simp only [List.map_toArray,List.map_cons,List.map_nil]);first|done|rfl|(simp only [List.length_drop,List.length_take];rfl)) ?_
 with_reducible refine (flat_curve.calls k t443 t444 t445 t446 t447 t448 t449 t450 t451 t452 _ A7.out).mono ?_
 rintro e w15 ⟨v453,rfl,ho0,hb⟩
 refine ⟨_,rfl,?_⟩
 have n0_:=amk (Kd.R_lower ho0 (below_size (by repeat (first|(with_reducible first|exact HB.out|apply bAl|apply bDN|apply bD1|refine bSe ?_ GE440.out|refine bSe ?_ GE441.out|refine bSe ?_ GE442.out)|exact HB.out))))
 have n1_:=amk (blk_below (g:=gb440) (o:=.cells #[.int .i64 a0_0,.int .i64 a0_1] 41 (0,0)) (by (with_reducible repeat first|apply kN|apply kD|apply kA);exact BK440.out) hb)
 have n2_:=amk (blk_below (g:=gb441) (o:=.cells #[.int .i64 a1_0,.int .i64 a1_1] 41 (0,0)) (by (with_reducible repeat first|apply kN|apply kD|apply kA);exact BK441.out) hb)
 have n3_:=amk (blk_below (g:=gb442) (o:=.cells #[.int .i64 a2_0,.int .i64 a2_1] 41 (0,0)) (by (with_reducible repeat first|apply kN|apply kD|apply kA);exact BK442.out) hb)
 have n4_:=amk (below_step (by repeat (first|(with_reducible first|exact HB.out|apply bAl|apply bDN|apply bD1|refine bSe ?_ GE440.out|refine bSe ?_ GE441.out|refine bSe ?_ GE442.out)|exact HB.out)) hb)
 clear BK440
 clear BK441
 clear BK442
 clear HB
 have HO454:=n0_
 have BK440:=n1_
 have BK441:=n2_
 have BK442:=n3_
 have HB:=n4_
 clear n0_ n1_ n2_ n3_ n4_
 (try clear hb)
 (try clear hb2)
 (try clear hk)
 (try clear hi)
 (try clear ho0)
 refine hK.out _ _ ⟨(blk_cell BK440.out 0).trans rfl,(blk_cell BK440.out 1).trans rfl,(blk_cell BK441.out 0).trans rfl,(blk_cell BK441.out 1).trans rfl,(blk_cell BK442.out 0).trans rfl,(blk_cell BK442.out 1).trans rfl⟩ (fun hHeld=>?_)
 clear hK K
 refine norm_ (a':=?_) ?_ ?_
 rotate_left
 ·show Act.put _ (some 13) _=_
  simp only [Act.put,sTA,sCZ,sCS,i64_w,i32_w]
  rfl
 refine pure_ (i:=7) (N:=some 6) (v:=?_) (a':=?_) #[true,true,true,true,true,true,true,true] rfl rfl (any_of HT_.out (by kernel_rfl)) (fun _ _ _ h=>h) (Or.inl ⟨by rfl,?_⟩) ?_ ?_
 rotate_left
 ·intro w'
  go_simp
  with_reducible rfl
 rotate_left
 ·simp only [Act.put,sTA,sCZ,sCS,i64_w,i32_w]
  rfl
 refine done_ (done_of HT_.out (by kernel_rfl)) ?_
 try go_wp2
 go_ret
 exact ⟨_,by first|rfl|(simp [errW_none,errW_some] <;> rfl)|(simp [*,errW_none,errW_some] <;> rfl),by (with_reducible repeat (first|apply Kd.R_alloc|apply Kd.R_drewN|apply Kd.R_drew));exact HO454.out,by repeat (first|(with_reducible first|exact HB.out|apply bAl|apply bDN|apply bD1|refine bSe ?_ GE440.out|refine bSe ?_ GE441.out|refine bSe ?_ GE442.out)|exact HB.out)⟩

end Go.Proofs.Ytjmflccbddjlhaa.PFm
