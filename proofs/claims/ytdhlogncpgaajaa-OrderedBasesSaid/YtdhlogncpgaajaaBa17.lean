/- Texts of the claim: Ordx2. -/
import Derived.Test.YtdhlogncpgaajaaBa0
import Derived.Test.YtdhlogncpgaajaaBa3
import Derived.Test.YtdhlogncpgaajaaBa13
namespace Go.Proofs.Ytdhlogncpgaajaa.Ord
open Go.RowKit Go.Proofs.YtdhlogncpgaajaaW.PrintWords Go.Proofs.YtdhlogncpgaajaaW.PrintLast Go.Proofs.YtdhlogncpgaajaaW.PrintMore
attribute [local go_sem] qaE qaF qb5 qb4 qar qas qaG qaD   -- for this text's walks alone
set_option linter.unusedVariables false
set_option linter.unusedSimpArgs false
def matrix_add.l0:Nat→List Int→Int→List Int→Int→Int→Int→Int→List Int→Int→List Int→List Int→Option (Int × Int × Int × List Int)
 | 0,_,_,_,_,_,_,_,_,_,_,_=>none
 | k+1,x1,x2,x10,x11,x12,x1000,x1001,x1002,x1003,x1004,x1005=>if x12<x11 then (if 0≤x12 then (if x12<(x10.length:Int) then (if (rd x10 x12)=0 then (matrix_add.l0 k x1 x2 x10 x11 (wrap64 (x12+1)) x1000 x1001 x1002 x1003 x1004 x1005) else (if x12<(x1.length:Int) then ((field_GF_Mul.f x1000 x1001 x1002 x1003 x1004 x1005 x2 (rd x10 x12)).bind fun bt135=>((field_GF_Add.f k bt135.2.1 bt135.2.2.1 x1002 bt135.2.2.2 x1004 x1005 (rd x1 x12) bt135.1).bind fun bt139=>(matrix_add.l0 k (x1.set (x12:Int).toNat bt139.1) x2 x10 x11 (wrap64 (x12+1)) bt139.2.1 bt139.2.2.1 x1002 bt139.2.2.2 x1004 x1005))) else (none))) else (none)) else (none)) else (some (x1000,x1001,x1003,x1))
def matrix_add.f (k:Nat) (s0_0:Int) (s0_1:Int) (s0_2:List Int) (s0_3:Int) (s0_4:List Int) (s0_5:List Int) (l1:List Int) (a2:Int) (l3:List Int):Option (Int × Int × Int × List Int):=matrix_add.l0 k l1 a2 l3 (l3.length:Int) 0 s0_0 s0_1 s0_2 s0_3 s0_4 s0_5
def matrix_add.T4:Bool × List (List Nat × List Nat):=(true,[([],[]),([],[]),([],[]),([],[]),([],[]),([3,4],[3,4]),([5],[5]),([],[]),([],[]),([],[]),([7,8,9],[7,8,9]),([2,6,10,10],[2,6,10]),([0,1,0,1,2,3,4,5,6,7,8,9,10,11],[0,1]),([12,11,11,0,1,2,3,4,5,6,7,8,9,10,11],[11,12])])
def matrix_add.B4:List Nat:=[0,0,0,0,0,24,56,0,0,0,896,2044,4095,8191]
theorem matrix_add.tab4:rtab .any (qcn Try.f94 4)=matrix_add.T4:=by kernel_rfl
theorem matrix_add.bits4:qb3 matrix_add.T4.2 matrix_add.B4=true:=by kernel_rfl
set_option maxHeartbeats 8000000 in
set_option maxRecDepth 100000 in
theorem matrix_add.calls (k:Nat) (g:Nat) (s0_0:Int) (s0_1:Int) (s0_2:List Int) (s0_3:Int) (s0_4:List Int) (s0_5:List Int) (P1_:Nat→Prop) (u9000_:Value) (l1:List Int) (a2:Int) (A3:Option Addr) (c3:Nat) (l3:List Int) (r1:Int) (r2:Int) (r3:Int) (r4:List Int) (w0 w:World) (hI:qag w0 w g s0_0 s0_1 s0_2 s0_3 s0_4 s0_5) (hB:Below w0.heap.size w0 w) (ho1:Kd.R (Kd.int .i64) 3 w w0.heap.size P1_ u9000_ l1) (hr3:∀ W_,Kept w W_ (fun k_=>(P1_ k_)∨k_=g)→Kd.C (Kd.int .i64) W_ A3 l3.length l3) (hc3:l3.length≤c3) (h:matrix_add.f k s0_0 s0_1 s0_2 s0_3 s0_4 s0_5 l1 a2 l3=some (r1,r2,r3,r4)) :
  Calls Try.prog 94 #[.pointer (some ⟨g,0,none⟩),u9000_,.int .i64 a2,.slice A3 l3.length c3] w fun e w'=>e=.returned (.tuple #[])∧qag w0 w' g r1 r2 s0_2 r3 s0_4 s0_5∧Kd.R (Kd.int .i64) 3 w' w0.heap.size (fun k_=>(P1_ k_∨w.heap.size≤k_)) u9000_ r4∧Below w0.heap.size w0 w'∧Kept w w' (fun k_=>(P1_ k_)∨k_=g):=by
 have HO1:=qa0.mk (show Kd.R (Kd.int .i64) 3 w w0.heap.size (fun k_=>(P1_ k_∨w.heap.size≤k_)) u9000_ l1 from Kd.R_mono ho1 (fun k_ hk=>(.inl hk)))
 have HR3:=qa0.mk hr3
 have HC3:=qa0.mk hc3
 clear hr3 hc3
 have HI0:=qa0.mk hI
 have HL:=qa0.mk hB.size
 clear hI
 have HK:=qa0.mk (Kept.refl w (fun k_=>(P1_ k_)∨k_=g))
 have HW0:=qa0.mk hB.size
 have HB:=qa0.mk hB
 clear hB
 have H:(matrix_add.l0 k l1 a2 l3 (l3.length:Int) 0 s0_0 s0_1 s0_2 s0_3 s0_4 s0_5)=some (r1,r2,r3,r4):=h
 clear h
 have H':=qa0.mk H
 clear H
 go_enter Try.func94,Try.ntmps94
 go_wp2
 go_loopg [12] k (fun kq v12 w'=>∃ (x1_1:List Int) (x12_1:Int) (x1000_1:Int) (x1001_1:Int) (x1003_1:Int),v12=.int .i64 x12_1∧qa0 (matrix_add.l0 kq x1_1 a2 l3 (l3.length:Int) x12_1 x1000_1 x1001_1 s0_2 x1003_1 s0_4 s0_5=some (r1,r2,r3,r4))∧qa0 (kq≤k)∧qa0 (Kd.R (Kd.int .i64) 3 w' w0.heap.size (fun k_=>(P1_ k_∨w.heap.size≤k_)) u9000_ x1_1)∧qa0 (qag w0 w' g x1000_1 x1001_1 s0_2 x1003_1 s0_4 s0_5)∧qa0 (Kept w w' (fun k_=>(P1_ k_)∨k_=g))∧qa0 (Below w0.heap.size w0 w'))
 case atStart=>exact ⟨(l1),(0),(s0_0),(s0_1),(s0_3),eA,H',⟨Nat.le_refl _⟩,rA HO1,⟨iA HI0⟩,⟨by repeat (first|(with_reducible first|exact HK.out|apply Kept.alloc|apply Kept.drewN|apply Kept.drew|refine Kept.setCell ?_ (.inl (.inr rfl)) _)|exact HK.out)⟩,⟨bS HB HI0⟩⟩
 case round =>
  clear H'
  try clear p2
  try clear c3
  obtain ⟨x1_1,x12_1,x1000_1,x1001_1,x1003_1,rfl,HA,HK1,HO_1,HI0,HK,HB⟩:=hrel
  cases gk with
  | zero=>exact absurd HA.out (by simp [matrix_add.l0])
  | succ k1 =>
   have H:=HA.out
   clear HA
   simp only [matrix_add.l0] at H
   by_cases c5:x12_1<(l3.length:Int)
   ·rw [if_pos c5] at H
    have c5b0:decide (x12_1<(l3.length:Int))=true:=decide_eq_true c5
    clear c5
    by_cases c6:0≤x12_1
    ·rw [if_pos c6] at H
     have c6b0:decide (0≤x12_1)=true:=decide_eq_true c6
     clear c6
     by_cases c7:x12_1<(l3.length:Int)
     ·rw [if_pos c7] at H
      have c7b0:decide (x12_1<(l3.length:Int))=true:=decide_eq_true c7
      clear c7
      by_cases c8:(rd l3 x12_1)=0
      ·rw [if_pos c8] at H
       obtain ⟨c8b0,c8b1⟩:=qT c8
       clear c8
       have H':=qa0.mk H
       clear H
       have p133:0≤(x12_1:Int):=of_decide_eq_true aS
       have q133:x12_1<(l3.length:Int):=of_decide_eq_true aS
       obtain ⟨ad133,e133,hx133_0⟩:=Kd.at_int (Kd.C_kept_now HR3.out HK.out) x12_1 p133 q133
       cases e133
       replace p133:=eq_true p133
       replace q133:=eq_true q133
       go_wp2
       go_roundg k1
       case measure=>have:=HK1.out;omega
       case rel=>exact ⟨(x1_1),(wrap64 (x12_1+1)),(x1000_1),(x1001_1),(x1003_1),eA,H',⟨by have:=HK1.out;omega⟩,rA HO_1,⟨iA HI0⟩,⟨by repeat (first|(with_reducible first|exact HK.out|apply Kept.alloc|apply Kept.drewN|apply Kept.drew|refine Kept.setCell ?_ (.inl (.inr rfl)) _)|exact HK.out)⟩,⟨bS HB HI0⟩⟩
      ·rw [if_neg c8] at H
       obtain ⟨c8b0,c8b1⟩:=qF c8
       by_cases c9:x12_1<(x1_1.length:Int)
       ·rw [if_pos c9] at H
        have c9b0:decide (x12_1<(x1_1.length:Int))=true:=decide_eq_true c9
        clear c9
        obtain ⟨⟨t135,t136,t137,t138⟩,A10,H⟩:=oB H
        try dsimp only at H
        obtain ⟨⟨t139,t140,t141,t142⟩,A11,H⟩:=oB H
        try dsimp only at H
        obtain ⟨y143,hy143⟩:∃ y_:List Int,y_=(x1_1.set (x12_1:Int).toNat t139):=⟨_,rfl⟩
        replace H:(matrix_add.l0 k1 y143 a2 l3 (l3.length:Int) (wrap64 (x12_1+1)) t140 t141 s0_2 t142 s0_4 s0_5)=some (r1,r2,r3,r4):=by first|(rw [hy143];with_reducible exact H)|(have H2_:=(Option.bind_some _ _).symm.trans H;rw [hy143];with_reducible exact H2_)|(have H2_:=(Option.bind_some _ _).symm.trans H;with_reducible exact H2_)|with_reducible exact H|(rw [hy143];exact H)|exact H
        have Ny143:=qa0.mk hy143
        clear hy143
        have H':=qa0.mk H
        clear H
        have p133:0≤(x12_1:Int):=of_decide_eq_true aS
        have q133:x12_1<(l3.length:Int):=of_decide_eq_true aS
        obtain ⟨ad133,e133,hx133_0⟩:=Kd.at_int (Kd.C_kept_now HR3.out HK.out) x12_1 p133 q133
        cases e133
        replace p133:=eq_true p133
        replace q133:=eq_true q133
        try go_wp2
        replace HO_1:=qa0.mk (Kd.R_drew HO_1.out)
        replace HI0:=qa0.mk (qag.drew HI0.out)
        replace HK:=qa0.mk (Kept.drew HK.out)
        replace HB:=qa0.mk (qad HB.out)
        obtain ⟨Ao14,co14,eo14⟩:=Kd.R_slice HO_1.out
        (first|subst eo14|(injection eo14 with f1_ f2_ f3_;have f4_:=f1_.symm;have f5_:=f3_.symm;clear f1_ f2_ f3_;subst f4_;subst f5_))
        have p134:0≤(x12_1:Int):=of_decide_eq_true aS
        have q134:x12_1<(x1_1.length:Int):=of_decide_eq_true aS
        obtain ⟨ad134,e134,hx134_0⟩:=Kd.at_int (Kd.R_reads' HO_1.out).2.2 x12_1 p134 q134
        cases e134
        replace p134:=eq_true p134
        replace q134:=eq_true q134
        refine qax (n:=14) (S:=fun w'=>w'.cell? (ad134.add (x12_1).toNat)=some (.int .i64 (rd x1_1 x12_1))) (ds:=[13]) #[false,false,false,false,false,false,false,false,false,false,false,false,false,false] (by kernel_rfl) rfl rfl (hx134_0) (fun hHeld=>?_);refine qaq matrix_add.tab4 matrix_add.bits4 (fun HT_ HW_=>?_)
        generalize wr.drew=w13 at HO_1 HI0 HK HB hx134_0 hHeld ⊢
        refine sT 0 HT_ ?_
        refine sT 1 HT_ ?_
        refine sT 2 HT_ ?_
        refine sT 3 HT_ ?_
        refine sT 4 HT_ ?_
        refine sT 5 HT_ ?_
        refine sT 7 HT_ ?_
        refine sT 8 HT_ ?_
        refine sT 9 HT_ ?_
        refine take_ (i:=6) (N:=some 25) (v:=?_) (a':=?_) #[true,true,true,true,true,true,true,true,true,true,false,false,false,false] rfl rfl (qfL HT_.out HW_.out (by kernel_rfl)) (fun _ _ _ h=>h) (Or.inl ⟨by rfl,?_⟩) hHeld ?_ ?_
        rotate_left
        ·intro w' s0
         go_simp
         with_reducible rfl
        rotate_left
        ·simp only [Act.put,List.setIfInBounds_toArray,List.set_cons_zero,List.set_cons_succ,i64_w,qbY]
         rfl
        refine oT 10 HT_ (fun K hK=>?_)
        refine qbi Try.func89 (by kernel_rfl) rfl #[.pointer (some ⟨g,0,none⟩),.int .i64 a2,.int .i64 (rd l3 x12_1)] (by rfl) rfl rfl (by (try simp only [List.map_toArray,List.map_cons,List.map_nil]);first|done|rfl|(simp only [List.length_drop,List.length_take];rfl)) ?_
        with_reducible refine (field_GF_Mul.calls g x1000_1 x1001_1 s0_2 x1003_1 s0_4 s0_5 a2 (rd l3 x12_1) t135 t136 t137 t138 w0 _ ?side1 ?side2 A10.out).mono ?_
        (case side1=>exact iA HI0)
        (case side2=>exact bS HB HI0)
        rintro e w15 ⟨rfl,hi,hb,hk⟩
        have HS0_:=qbI hk (hHeld) (by first|(rw [qbs];exact Kd.own_blk (qag.own_ne HI0.out HO_1.out (by decide)))|(show (Addr.add _ _).block≠_;rw [qbs];exact Kd.own_blk (qag.own_ne HI0.out HO_1.out (by decide)))|exact Kd.own_blk (qag.own_ne HI0.out HO_1.out (by decide)))
        refine ⟨_,rfl,?_⟩
        replace HO_1:=qa0.mk (Kd.R_mono (Kd.R_keep (qag.apart (show qag w0 _ g x1000_1 x1001_1 s0_2 x1003_1 s0_4 s0_5 from iA HI0) (by (with_reducible repeat (first|apply Kd.R_alloc|apply Kd.R_drewN|apply Kd.R_drew));exact HO_1.out) (by decide)) hk (fun _ h=>h.2)) (fun _ h=>h.1))
        replace HK:=qa0.mk (Kept.of_keep (S:=(fun k_=>(P1_ k_)∨k_=g)) (by repeat (first|(with_reducible first|exact HK.out|apply Kept.alloc|apply Kept.drewN|apply Kept.drew|refine Kept.setCell ?_ (.inl (.inr rfl)) _)|exact HK.out)) hk (.inl (.inr rfl)))
        replace HB:=qa0.mk (hb)
        replace HI0:=qa0.mk (hi)
        (try clear hb)
        (try clear hb2)
        (try clear hk)
        (try clear hi)
        refine hK.out _ _ (HS0_) (fun hHeld=>?_)
        clear hK K
        refine nO 29 ?_
        refine oT 11 HT_ (fun K hK=>?_)
        refine qbi Try.func98 (by kernel_rfl) rfl #[.pointer (some ⟨g,0,none⟩),.int .i64 (rd x1_1 x12_1),.int .i64 t135] (by rfl) rfl rfl (by (try simp only [List.map_toArray,List.map_cons,List.map_nil]);first|done|rfl|(simp only [List.length_drop,List.length_take];rfl)) ?_
        with_reducible refine (field_GF_Add.calls k1 g t136 t137 s0_2 t138 s0_4 s0_5 (rd x1_1 x12_1) t135 t139 t140 t141 t142 w0 _ ?side1 ?side2 A11.out).mono ?_
        (case side1=>exact iA HI0)
        (case side2=>exact bS HB HI0)
        rintro e w16 ⟨rfl,hi,hb,hk⟩
        have HS0_:=qbI hk (hHeld) (by first|(rw [qbs];exact Kd.own_blk (qag.own_ne HI0.out HO_1.out (by decide)))|(show (Addr.add _ _).block≠_;rw [qbs];exact Kd.own_blk (qag.own_ne HI0.out HO_1.out (by decide)))|exact Kd.own_blk (qag.own_ne HI0.out HO_1.out (by decide)))
        refine ⟨_,rfl,?_⟩
        replace HO_1:=qa0.mk (Kd.R_mono (Kd.R_keep (qag.apart (show qag w0 _ g t136 t137 s0_2 t138 s0_4 s0_5 from iA HI0) (by (with_reducible repeat (first|apply Kd.R_alloc|apply Kd.R_drewN|apply Kd.R_drew));exact HO_1.out) (by decide)) hk (fun _ h=>h.2)) (fun _ h=>h.1))
        replace HK:=qa0.mk (Kept.of_keep (S:=(fun k_=>(P1_ k_)∨k_=g)) (by repeat (first|(with_reducible first|exact HK.out|apply Kept.alloc|apply Kept.drewN|apply Kept.drew|refine Kept.setCell ?_ (.inl (.inr rfl)) _)|exact HK.out)) hk (.inl (.inr rfl)))
        replace HB:=qa0.mk (hb)
        replace HI0:=qa0.mk (hi)
        (try clear hb)
        (try clear hb2)
        (try clear hk)
        (try clear hi)
        have p12:0≤(x12_1:Int):=of_decide_eq_true aS
        have q12:(x12_1:Int)<((x1_1.length:Int):Int):=of_decide_eq_true aS
        obtain ⟨go12,co12,eo12,gb12,gl12,cl12,HG12⟩:=Kd.R_form HO_1.out (by omega)
        (first|cases eo12|(injection eo12 with ea_ en_ ec_;(first|subst ea_|(injection ea_ with ea_;subst ea_));subst ec_;clear en_))
        have GB12:=qa0.mk gb12
        have GG12:=qa0.mk HG12
        clear gb12 gl12 HG12
        have HMgo12:=qa0.mk (show (P1_ go12∨w.heap.size≤go12) from (HO_1.out.1 _ rfl))
        (first|simp only [qau] at hx134_0|skip)
        obtain ⟨hx12_0,hf12_0⟩:=Kd.R_celln 0 HO_1.out (x12_1:Int) p12 q12
        replace p12:=eq_true p12
        replace q12:=eq_true q12
        have HN0_go12:=qa0.mk (show g≠go12 from by have h_:=qag.own_ne HI0.out HO_1.out (by decide);intro e_;exact h_ (by rw [e_];rfl))
        have HP17:=Kd.R_putn HO_1.out (x12_1:Int) t139
        rw [← Ny143.out] at HP17
        have HQ17:=qa0.mk HP17
        clear HP17
        refine hK.out _ _ (HS0_) (fun hHeld=>?_)
        clear hK K
        refine nO 30 ?_
        refine sT 12 HT_ ?_
        refine qc4 (i:=13) (N:=none) #[true,true,true,true,true,true,true,true,true,true,true,true,true,true] rfl rfl (qbZ HT_.out (by kernel_rfl)) (by decide) (fun K hK=>?_)
        refine qbN (w1:=?_) (by rfl) rfl ?_ ?_
        rotate_left
        ·go_simp
         rfl
        refine hK.out _ _ ?_
        clear hK K
        refine qb6 (qaZ HT_.out (by kernel_rfl)) ?_
        try go_wp2
        go_roundg k1
        case measure=>have:=HK1.out;omega
        case rel=>exact ⟨(y143),(wrap64 (x12_1+1)),(t140),(t141),(t142),eA,H',⟨by have:=HK1.out;omega⟩,rA HQ17,⟨by repeat (first|(with_reducible first|exact HI0.out|apply qag.alloc|apply qag.drewN|apply qag.drew|apply qag.set_0|apply qag.set_1|apply qag.set_3|refine qag.far ?_ HN0_go12.out _)|exact HI0.out)⟩,⟨by repeat (first|(with_reducible first|exact HK.out|apply Kept.alloc|apply Kept.drewN|apply Kept.drew|refine Kept.setCell ?_ (Or.imp_left Or.inl HMgo12.out) _|refine Kept.setCell ?_ (.inl (.inr rfl)) _)|exact HK.out)⟩,⟨by repeat (first|(with_reducible first|exact HB.out|apply qac|apply qaj|apply qad|refine qaf ?_ GB12.out|refine qaf ?_ (qag.ge HI0.out))|exact HB.out)⟩⟩
       ·rw [if_neg c9] at H
        exact absurd H (by simp)
     ·rw [if_neg c7] at H
      exact absurd H (by simp)
    ·rw [if_neg c6] at H
     exact absurd H (by simp)
   ·rw [if_neg c5] at H
    have c5b0:decide (x12_1<(l3.length:Int))=false:=decide_eq_false c5
    clear c5
    simp only [Option.some.injEq,Prod.mk.injEq] at H
    obtain ⟨rfl,rfl,rfl,rfl⟩:=H
    go_wp2
    first|go_end0|((try simp only [Exit.inBlock,Exit.then]);refine bodyPost_ret (results_none rfl _ _ _) rfl ?_)
    exact ⟨eR,iA HI0,by (with_reducible repeat (first|apply Kd.R_alloc|apply Kd.R_drewN|apply Kd.R_drew));exact HO_1.out,bS HB HI0,by repeat (first|(with_reducible first|exact HK.out|apply Kept.alloc|apply Kept.drewN|apply Kept.drew|refine Kept.setCell ?_ (.inl (.inr rfl)) _)|exact HK.out)⟩
mutual
def r09Few.j0:Nat→Int→Bool→Int→List (List Int)→Option (Bool)
 | 0,_,_,_,_=>none
 | k+1,x1,x16,x145000,x145001=>if x16=true then (some false) else (r09Few.l0 k (wrap64 (x1-(x145001.length:Int))) 0 x145000 x145001)
def r09Few.l0:Nat→Int→Int→Int→List (List Int)→Option (Bool)
 | 0,_,_,_,_=>none
 | k+1,x5,x6,x145000,x145001=>if x6<(x145001.length:Int) then (if 0≤x6 then (if ((qa8 x145001 x6).length:Int) > x5 then (some false) else (r09Few.l0 k (wrap64 (x5-((qa8 x145001 x6).length:Int))) (wrap64 (x6+1)) x145000 x145001)) else (none)) else (some true)
end
def r09Few.f (k:Nat) (a0_0:Int) (l0_1:List (List Int)) (a1:Int):Option (Bool):=if a0_0 > 260 then (r09Few.j0 k a1 true a0_0 l0_1) else (r09Few.j0 k a1 (decide ((l0_1.length:Int) > a1)) a0_0 l0_1)
set_option maxHeartbeats 8000000 in
set_option maxRecDepth 100000 in
theorem r09Few.calls (k:Nat) (a0_0:Int) (A0_1:Option Addr) (c0_1:Nat) (l0_1:List (List Int)) (a1:Int) (r:Bool) (w:World) (hr0_1:Kd.C (Kd.slice 3 (Kd.int .i64)) w A0_1 l0_1.length l0_1) (hc0_1:l0_1.length≤c0_1) (h:r09Few.f k a0_0 l0_1 a1=some r) :
  Calls Try.prog 31 #[.agg #[.int .i64 a0_0,.slice A0_1 l0_1.length c0_1],.int .i64 a1] w fun e w'=>e=.returned (.bool r)∧Below w.heap.size w w':=by
 have hu58:=Try.underlying58
 have HR0_1:=qa0.mk hr0_1
 have HC0_1:=qa0.mk hc0_1
 clear hr0_1 hc0_1
 have HB:=qa0.mk (Below.refl w.heap.size w)
 have H:(if a0_0 > 260 then (r09Few.j0 k a1 true a0_0 l0_1) else (r09Few.j0 k a1 (decide ((l0_1.length:Int) > a1)) a0_0 l0_1))=some r:=h
 clear h
 have HC3:=qa0.mk H
 clear H
 go_enter Try.func31,Try.ntmps31
 go_upto_region 1 with (first|((with_reducible refine qak (N:=2) rfl ?_);(try (refine qbc (by rfl) ?_;dsimp only));refine qbg ?hg (N:=2) ?hd (cs:=#[.int .i64 a0_0,.slice A0_1 l0_1.length c0_1]) (t:=58) ?hr ?_;(case hd=>rfl);(case hg=>rfl);(case hr=>first|(go_simp;done)|(go_simp;rfl));intro gb144 hg w4 hbox hb;have BK144:=qa0.mk (hbox);have GE144:=qa0.mk ((by rw [hg];exact (qa3 (bE HB)):w.heap.size≤gb144));replace HB:=qa0.mk (qa2 (bE HB) hb);clear hb hbox hg))
 (try simp only [Act.put,List.setIfInBounds_toArray,List.set_cons_zero,List.set_cons_succ])
 go_cut [16] (fun v16 wc=>∃ (kq:Nat) (x16_2:Bool),v16=.bool x16_2∧qa0 (r09Few.j0 kq a1 x16_2 a0_0 l0_1=some r)∧qa0 (kq≤k)∧qa0 (wc.heap[gb144]?=some (.cells #[.int .i64 a0_0,(.slice A0_1 l0_1.length c0_1)] 58 (0,0)))∧qa0 (Below w.heap.size w wc))
 case first =>
  have H:=HC3.out
  clear HC3
  by_cases c5:a0_0 > 260
  ·rw [if_pos c5] at H
   have c5b0:decide (260<a0_0)=true:=decide_eq_true c5
   clear c5
   (first|rw [c5b0]|(simp only [i64_w,qbY];rw [c5b0])|skip)
   have H':=qa0.mk H
   clear H
   obtain ⟨hcz6_0,hcz6_1,hfz6_0,hfz6_1⟩:=z2 BK144
   go_wp2
   go_meet
   case rel=>exact ⟨_,(true),eA,H',⟨by first|omega|exact Nat.le_refl _⟩,bA BK144,eB HB⟩
  ·rw [if_neg c5] at H
   have c5b0:decide (260<a0_0)=false:=decide_eq_false c5
   clear c5
   (first|rw [c5b0]|(simp only [i64_w,qbY];rw [c5b0])|skip)
   have H':=qa0.mk H
   clear H
   obtain ⟨hcz7_0,hcz7_1,hfz7_0,hfz7_1⟩:=z2 BK144
   go_wp2
   go_meet
   case rel=>exact ⟨_,(decide ((l0_1.length:Int) > a1)),eA,H',⟨by first|omega|exact Nat.le_refl _⟩,bA BK144,eB HB⟩
 case rest =>
  clear HC3
  try clear p2
  try clear c3
  try clear c5
  try clear c5b0
  try clear hcz6_0
  try clear hcz6_1
  try clear hcz7_0
  try clear hcz7_1
  try clear hfz6_0
  try clear hfz6_1
  try clear hfz7_0
  try clear hfz7_1
  obtain ⟨kq,x16_2,rfl,HA,HJ2,BK144,HB⟩:=hcut
  cases kq with
  | zero=>exact absurd HA.out (by simp [r09Few.j0])
  | succ kj2 =>
   have H:=HA.out
   clear HA
   simp only [r09Few.j0] at H
   by_cases c8:x16_2=true
   ·subst c8
    have H1:(some false)=some r:=by rw [if_pos rfl] at H;exact H
    clear H
    have H:=H1
    clear H1
    obtain rfl:=Option.some.inj H
    go_wp2
    go_ret
    exact ⟨eR,bE HB⟩
   ·replace c8:=Bool.eq_false_iff.mpr c8
    subst c8
    have H1:(r09Few.l0 kj2 (wrap64 (a1-(l0_1.length:Int))) 0 a0_0 l0_1)=some r:=by rw [if_neg (show ¬ (false=true) by decide)] at H;exact H
    clear H
    have H:=H1
    clear H1
    have H':=qa0.mk H
    clear H
    obtain ⟨hcz9_0,hcz9_1,hfz9_0,hfz9_1⟩:=z2 BK144
    go_wp2
    go_loopg [5,6] kj2 (fun kq v5 v6 w'=>∃ (x5_2:Int) (x6_2:Int),v5=.int .i64 x5_2∧v6=.int .i64 x6_2∧qa0 (r09Few.l0 kq x5_2 x6_2 a0_0 l0_1=some r)∧qa0 (kq≤kj2)∧qa0 (w'.heap[gb144]?=some (.cells #[.int .i64 a0_0,(.slice A0_1 l0_1.length c0_1)] 58 (0,0)))∧qa0 (Below w.heap.size w w'))
    case atStart=>exact ⟨(wrap64 (a1-(l0_1.length:Int))),(0),eA,eA,H',⟨Nat.le_refl _⟩,bA BK144,eB HB⟩
    case round =>
     clear H'
     try clear p2
     try clear c3
     try clear c5
     try clear c5b0
     try clear p6
     try clear c8
     try clear hcz6_0
     try clear hcz6_1
     try clear hcz7_0
     try clear hcz7_1
     try clear hcz9_0
     try clear hcz9_1
     try clear hfz6_0
     try clear hfz6_1
     try clear hfz7_0
     try clear hfz7_1
     try clear hfz9_0
     try clear hfz9_1
     try clear p2
     obtain ⟨x5_2,x6_2,rfl,rfl,HA,HK2,BK144,HB⟩:=hrel
     cases gk with
     | zero=>exact absurd HA.out (by simp [r09Few.l0])
     | succ k2 =>
      have H:=HA.out
      clear HA
      simp only [r09Few.l0] at H
      by_cases c10:x6_2<(l0_1.length:Int)
      ·rw [if_pos c10] at H
       have c10b0:decide (x6_2<(l0_1.length:Int))=true:=decide_eq_true c10
       clear c10
       by_cases c11:0≤x6_2
       ·rw [if_pos c11] at H
        have c11b0:decide (0≤x6_2)=true:=decide_eq_true c11
        clear c11
        by_cases c12:((qa8 l0_1 x6_2).length:Int) > x5_2
        ·rw [if_pos c12] at H
         have c12b0:decide (x5_2<((qa8 l0_1 x6_2).length:Int))=true:=decide_eq_true c12
         clear c12
         obtain rfl:=Option.some.inj H
         obtain ⟨hcz13_0,hcz13_1,hfz13_0,hfz13_1⟩:=z2 BK144
         have p145:0≤(x6_2:Int):=of_decide_eq_true aS
         have q145:x6_2<(l0_1.length:Int):=of_decide_eq_true aS
         obtain ⟨ad145,A145_0,c145_0,e145,hx145_0,hl145_0,hi145_0⟩:=qaR HR0_1.out x6_2 p145 q145
         cases e145
         replace hx145_0:=(HB.out.cell (World.block_lt_of_cell? w _ hx145_0)).trans hx145_0
         have HR145_0:=qa0.mk hi145_0
         have HC145_0:=qa0.mk hl145_0
         clear hi145_0 hl145_0
         replace p145:=eq_true p145
         replace q145:=eq_true q145
         go_wp2
         go_ret
         exact ⟨eR,bE HB⟩
        ·rw [if_neg c12] at H
         have c12b0:decide (x5_2<((qa8 l0_1 x6_2).length:Int))=false:=decide_eq_false c12
         clear c12
         have H':=qa0.mk H
         clear H
         obtain ⟨hcz14_0,hcz14_1,hfz14_0,hfz14_1⟩:=z2 BK144
         have p145:0≤(x6_2:Int):=of_decide_eq_true aS
         have q145:x6_2<(l0_1.length:Int):=of_decide_eq_true aS
         obtain ⟨ad145,A145_0,c145_0,e145,hx145_0,hl145_0,hi145_0⟩:=qaR HR0_1.out x6_2 p145 q145
         cases e145
         replace hx145_0:=(HB.out.cell (World.block_lt_of_cell? w _ hx145_0)).trans hx145_0
         have HR145_0:=qa0.mk hi145_0
         have HC145_0:=qa0.mk hl145_0
         clear hi145_0 hl145_0
         replace p145:=eq_true p145
         replace q145:=eq_true q145
         have p146:0≤(x6_2:Int):=of_decide_eq_true aS
         have q146:x6_2<(l0_1.length:Int):=of_decide_eq_true aS
         obtain ⟨ad146,A146_0,c146_0,e146,hx146_0,hl146_0,hi146_0⟩:=qaR HR0_1.out x6_2 p146 q146
         obtain rfl:ad145=ad146:=(by injection e146)
         replace hx146_0:=(HB.out.cell (World.block_lt_of_cell? w _ hx146_0)).trans hx146_0
         have HR146_0:=qa0.mk hi146_0
         have HC146_0:=qa0.mk hl146_0
         clear hi146_0 hl146_0
         replace p146:=eq_true p146
         replace q146:=eq_true q146
         have ea_:=Option.some.inj (hx145_0.symm.trans hx146_0)
         injection ea_ with ea_ en_ ec_
         subst ea_
         subst ec_
         clear en_
         go_wp2
         go_roundg k2
         case measure=>have:=HJ2.out;have:=HK2.out;omega
         case rel=>exact ⟨(wrap64 (x5_2-((qa8 l0_1 x6_2).length:Int))),(wrap64 (x6_2+1)),eA,eA,H',⟨by have:=HJ2.out;have:=HK2.out;omega⟩,bA BK144,eB HB⟩
       ·rw [if_neg c11] at H
        exact absurd H (by simp)
      ·rw [if_neg c10] at H
       have c10b0:decide (x6_2<(l0_1.length:Int))=false:=decide_eq_false c10
       clear c10
       obtain rfl:=Option.some.inj H
       obtain ⟨hcz15_0,hcz15_1,hfz15_0,hfz15_1⟩:=z2 BK144
       go_wp2
       go_ret
       exact ⟨eR,bE HB⟩
def r12Few.f (k:Nat) (a0_0:Int) (a0_1:Int) (l0_2:List Int) (a0_3:Int) (l0_4:List (List Int)) (a1:Int):Option (Bool):=(r09Few.f k 0 l0_4 a1).bind fun t148=>(some t148)
set_option maxHeartbeats 8000000 in
set_option maxRecDepth 100000 in
theorem r12Few.calls (k:Nat) (a0_0:Int) (a0_1:Int) (A0_2:Option Addr) (c0_2:Nat) (l0_2:List Int) (a0_3:Int) (A0_4:Option Addr) (c0_4:Nat) (l0_4:List (List Int)) (a1:Int) (r:Bool) (w:World) (hr0_2:Kd.C (Kd.int .i64) w A0_2 l0_2.length l0_2) (hc0_2:l0_2.length≤c0_2) (hr0_4:Kd.C (Kd.slice 3 (Kd.int .i64)) w A0_4 l0_4.length l0_4) (hc0_4:l0_4.length≤c0_4) (h:r12Few.f k a0_0 a0_1 l0_2 a0_3 l0_4 a1=some r) :
  Calls Try.prog 19 #[.agg #[.int .i64 a0_0,.int .i64 a0_1,.slice A0_2 l0_2.length c0_2,.int .i64 a0_3,.slice A0_4 l0_4.length c0_4],.int .i64 a1] w fun e w'=>e=.returned (.bool r)∧Below w.heap.size w w':=by
 have hu27:=Try.underlying27
 have hu58:=Try.underlying58
 have HR0_2:=qa0.mk hr0_2
 have HC0_2:=qa0.mk hc0_2
 clear hr0_2 hc0_2
 have HR0_4:=qa0.mk hr0_4
 have HC0_4:=qa0.mk hc0_4
 clear hr0_4 hc0_4
 have HB:=qa0.mk (Below.refl w.heap.size w)
 have H:((r09Few.f k 0 l0_4 a1).bind fun t148=>(some t148))=some r:=h
 clear h
 obtain ⟨t148,A3,H⟩:=oB H
 try dsimp only at H
 obtain rfl:=Option.some.inj H
 go_enter Try.func19,Try.ntmps19
 go_wp2_with (first|(refine gX 2 27 #[.int .i64 a0_0,.int .i64 a0_1,.slice A0_2 l0_2.length c0_2,.int .i64 a0_3,.slice A0_4 l0_4.length c0_4] ?_;intro gb147 hg w4 hbox hb;have BK147:=qa0.mk (hbox);have GE147:=qa0.mk ((by rw [hg];exact (qa3 (bE HB)):w.heap.size≤gb147));replace HB:=qa0.mk (qa2 (bE HB) hb);clear hb hbox hg;obtain ⟨hcz5_0,hcz5_1,hcz5_2,hcz5_3,hcz5_4,hfz5_0,hfz5_1,hfz5_2,hfz5_3,hfz5_4⟩:=z5 BK147)|(refine gC 9 Try.func31 #[.agg #[.int .i64 0,.slice A0_4 l0_4.length c0_4],.int .i64 a1] ?_;refine Calls.mono (r09Few.calls k 0 _ _ l0_4 a1 t148 _ (cA HR0_4 HB) HC0_4.out A3.out) ?_;rintro e w6 ⟨rfl,hb⟩;refine ⟨_,rfl,?_⟩;replace BK147:=qa0.mk (qa4 (bK BK147) hb);replace HB:=qa0.mk (qa2 (bE HB) hb);(try clear hb);(try clear hb2);(try clear hk);(try clear hi)))
 go_ret
 exact ⟨eR,bE HB⟩
def w42few.f (k:Nat) (a0_0:Int) (a0_1:Int) (l0_2:List Int) (a0_3:Int) (l0_4:List (List Int)):Option (Bool):=if (l0_4.length:Int)≤64 then ((r12Few.f k a0_0 a0_1 l0_2 a0_3 l0_4 4200).bind fun t150=>(some t150)) else (some false)
set_option maxHeartbeats 8000000 in
set_option maxRecDepth 100000 in
theorem w42few.calls (k:Nat) (a0_0:Int) (a0_1:Int) (A0_2:Option Addr) (c0_2:Nat) (l0_2:List Int) (a0_3:Int) (A0_4:Option Addr) (c0_4:Nat) (l0_4:List (List Int)) (r:Bool) (w:World) (hr0_2:Kd.C (Kd.int .i64) w A0_2 l0_2.length l0_2) (hc0_2:l0_2.length≤c0_2) (hr0_4:Kd.C (Kd.slice 3 (Kd.int .i64)) w A0_4 l0_4.length l0_4) (hc0_4:l0_4.length≤c0_4) (h:w42few.f k a0_0 a0_1 l0_2 a0_3 l0_4=some r) :
  Calls Try.prog 6 #[.agg #[.int .i64 a0_0,.int .i64 a0_1,.slice A0_2 l0_2.length c0_2,.int .i64 a0_3,.slice A0_4 l0_4.length c0_4]] w fun e w'=>e=.returned (.bool r)∧Below w.heap.size w w':=by
 have hu27:=Try.underlying27
 have HR0_2:=qa0.mk hr0_2
 have HC0_2:=qa0.mk hc0_2
 clear hr0_2 hc0_2
 have HR0_4:=qa0.mk hr0_4
 have HC0_4:=qa0.mk hc0_4
 clear hr0_4 hc0_4
 have HB:=qa0.mk (Below.refl w.heap.size w)
 have H:(if (l0_4.length:Int)≤64 then ((r12Few.f k a0_0 a0_1 l0_2 a0_3 l0_4 4200).bind fun t150=>(some t150)) else (some false))=some r:=h
 clear h
 by_cases c2:(l0_4.length:Int)≤64
 ·rw [if_pos c2] at H
  have c2b0:decide ((l0_4.length:Int)≤64)=true:=decide_eq_true c2
  have c2b1:decide (l0_4.length≤64)=true:=decide_eq_true (by omega)
  clear c2
  obtain ⟨t150,A3,H⟩:=oB H
  try dsimp only at H
  obtain rfl:=Option.some.inj H
  go_enter Try.func6,Try.ntmps6
  go_wp2_with (first|(refine gX 1 27 #[.int .i64 a0_0,.int .i64 a0_1,.slice A0_2 l0_2.length c0_2,.int .i64 a0_3,.slice A0_4 l0_4.length c0_4] ?_;intro gb149 hg w4 hbox hb;have BK149:=qa0.mk (hbox);have GE149:=qa0.mk ((by rw [hg];exact (qa3 (bE HB)):w.heap.size≤gb149));replace HB:=qa0.mk (qa2 (bE HB) hb);clear hb hbox hg;obtain ⟨hcz5_0,hcz5_1,hcz5_2,hcz5_3,hcz5_4,hfz5_0,hfz5_1,hfz5_2,hfz5_3,hfz5_4⟩:=z5 BK149)|(go_at_call 19;refine Calls.mono (r12Few.calls k a0_0 a0_1 _ _ l0_2 a0_3 _ _ l0_4 4200 t150 _ (cA HR0_2 HB) HC0_2.out (cA HR0_4 HB) HC0_4.out A3.out) ?_;rintro e w6 ⟨rfl,hb⟩;replace BK149:=qa0.mk (qa4 (bK BK149) hb);replace HB:=qa0.mk (qa2 (bE HB) hb);(try clear hb);(try clear hb2);(try clear hk);(try clear hi)))
  go_ret
  exact ⟨eR,bE HB⟩
 ·rw [if_neg c2] at H
  have c2b0:decide ((l0_4.length:Int)≤64)=false:=decide_eq_false c2
  have c2b1:decide (l0_4.length≤64)=false:=decide_eq_false (by omega)
  clear c2
  obtain rfl:=Option.some.inj H
  go_enter Try.func6,Try.ntmps6
  go_wp2_with (first|(refine gX 1 27 #[.int .i64 a0_0,.int .i64 a0_1,.slice A0_2 l0_2.length c0_2,.int .i64 a0_3,.slice A0_4 l0_4.length c0_4] ?_;intro gb149 hg w7 hbox hb;have BK149:=qa0.mk (hbox);have GE149:=qa0.mk ((by rw [hg];exact (qa3 (bE HB)):w.heap.size≤gb149));replace HB:=qa0.mk (qa2 (bE HB) hb);clear hb hbox hg;obtain ⟨hcz8_0,hcz8_1,hcz8_2,hcz8_3,hcz8_4,hfz8_0,hfz8_1,hfz8_2,hfz8_3,hfz8_4⟩:=z5 BK149))
  go_ret
  exact ⟨eR,bE HB⟩
end Go.Proofs.Ytdhlogncpgaajaa.Ord
