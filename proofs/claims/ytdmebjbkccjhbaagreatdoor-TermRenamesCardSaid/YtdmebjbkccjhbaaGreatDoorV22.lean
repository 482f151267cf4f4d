/- A part. -/
import Derived.Test.YtdmebjbkccjhbaaGreatDoorV21
import Derived.Test.YtdmebjbkccjhbaaGreatDoorRows
import Derived.Test.YtdmebjbkccjhbaaGreatDoorCards
import Derived.Test.YtdmebjbkccjhbaaGreatDoorTie
import Derived.Deep.DeepLaidRun
import Derived.ProofKit
import Derived.OpenShut
import Derived.Deep.DeepHandedRow
import Derived.Stop.LaidErr
import Derived.LaidLaws
import Derived.ChangeMaps5
import Derived.Carry
import Derived.Deep.Slices
set_option linter.unusedVariables false
set_option linter.unusedSimpArgs false
set_option maxRecDepth 100000
set_option maxHeartbeats 32000000
namespace Go.Proofs.YtdmebjbkccjhbaaGreatDoor
open Go.RowKit
variable {bz:Nat}
theorem p1_ok {b o:Nat} {s:ByteArray} {σ σ':PS} {t:Tm} {w:World} (hT:TO bz s 1 σ t σ') (h:PW w b s σ) (ho:Blk w o 27 z27) (hob:o≠b) (ho2:6≤o):
  Calls Tryz.prog 75 #[.pointer (some ⟨b,0,none⟩),.pointer (some ⟨o,0,none⟩)] w (fun e w'=>e=.returned (.tuple #[])∧Lies bz o w.heap.size t w'∧PW w' b s σ'∧Kept (fun k=>k=b∨k=o) w w'):=by
 have hlt:=h.lt
 have holt:=ho.lt
 go_enter Tryz.func75,Tryz.ntmps75
 go_wp2_with fail
 refine (hT b w h).mono ?_
 rintro e w1 hr
 obtain⟨v,rfl,⟨tk,kk,rfl,at1,ct1⟩,p1,k1⟩:=hr.getOk rfl
 clear hr
 obtain⟨ta1,tn1,tc1,rfl⟩:=at1.slice
 obtain⟨ma1,mn1,mc1,rfl⟩:=ct1.slice
 unfold tmVal
 have hO:=ho.kept k1 (by show ¬ o=b;exact hob)
 have gO:∀ i,w1.cell? ⟨o,i,none⟩=[Value.int .i64 0,.string ⟨#[]⟩,.int .i64 0,.int .i64 0,.string ⟨#[]⟩,.slice none 0 0,.slice none 0 0][i]?:=hO.cell
 have fO:∀ i,w1.frozen? ⟨o,i,none⟩=false:=hO.frozen
 go_wp2_with fail
 go_end0
 exact⟨rfl,⟨_,_,r7 hO rfl,at1.frame (same7 holt),ct1.frame (same7 holt)⟩,p7w p1 hob ho2,k7w (k1.mono (fun _ _ h=>Or.inl h)) (Or.inl (Or.inr rfl))⟩
theorem rd_ok {o:Nat} {s:ByteArray} {σ1 σ2:PS} {t:Tm} {w:World} (hs:s.size≤65536) (hgl:Gl w) (ho:Blk w o 27 z27) (ho2:6≤o) (ha:advS s ps0=.ok σ1) (hT:TO bz s 1 σ1 t σ2) (hk:(σ2.k==0)=true):
  Calls Tryz.prog 74 #[.string s,.func (.func 75) #[] #[.pointer (some ⟨o,0,none⟩)]] w fun e w'=>e=.returned (.tuple #[.int .i64 0,.int .i64 0])∧Kept (·=o) w w'∧Lies bz o w.heap.size t w':=by
 have hmf:∀ (fn:Fn) (first cap:Array Value) (w:World),(Instr.makeFunc fn first cap).run Tryz.prog w=.ok (.func fn first cap) w:=fun _ _ _ _=>rfl
 have hgt:=hgl.lt
 have i1:(s.size:Int)≤65536:=by omega
 have h0:PW (((w.alloc (.cells #[.int .i64 0] 3)).alloc (.cells #[.int .i64 0] 40)).alloc (.cells #[.string s,.int .i64 0,.int .i64 0,.string ⟨#[]⟩,.int .i64 0,.int .i64 0,.int .i64 0] 142)) (w.heap.size+2) s ps0:=
  ⟨Blk.new' 142 _ (by simp),Nat.zero_le _,Nat.zero_le _,hs,by omega,((hgl.alloc _).alloc _).alloc _,Nat.zero_le _⟩
 have K0:Kept (fun _=>False) w (((w.alloc (.cells #[.int .i64 0] 3)).alloc (.cells #[.int .i64 0] 40)).alloc (.cells #[.string s,.int .i64 0,.int .i64 0,.string ⟨#[]⟩,.int .i64 0,.int .i64 0,.int .i64 0] 142)):=((kR.alloc _).alloc _).alloc _
 have bA:Blk (((w.alloc (.cells #[.int .i64 0] 3)).alloc (.cells #[.int .i64 0] 40)).alloc (.cells #[.string s,.int .i64 0,.int .i64 0,.string ⟨#[]⟩,.int .i64 0,.int .i64 0,.int .i64 0] 142)) w.heap.size 3 [.int .i64 0]:=((Blk.new w 3 [.int .i64 0]).alloc _).alloc _
 have bE:Blk (((w.alloc (.cells #[.int .i64 0] 3)).alloc (.cells #[.int .i64 0] 40)).alloc (.cells #[.string s,.int .i64 0,.int .i64 0,.string ⟨#[]⟩,.int .i64 0,.int .i64 0,.int .i64 0] 142)) (w.heap.size+1) 40 [.int .i64 0]:=(Blk.new' 40 [.int .i64 0] (by simp)).alloc _
 have lo:=ho.lt
 go_enter_defers Tryz.func74,Tryz.ntmps74
 go_wp2_with fail
 refine (adv_ok h0 ha).mono ?_
 rintro e w1 ⟨rfl,p1,k1⟩
 have a1:=bA.kept k1 (by show ¬ w.heap.size=w.heap.size+2;omega)
 have e1:=bE.kept k1 (by show ¬ w.heap.size+1=w.heap.size+2;omega)
 have K1:Kept (fun _=>False) w w1:=K0.via k1 (fun x hx h=>by omega)
 have z1:=p1.lt
 have o1:=ho.kept K1 (fun h=>h)
 go_wp2_with fail
 refine (p1_ok hT p1 o1 (by omega) ho2).mono ?_
 rintro e w2 ⟨rfl,⟨tk,kk,hb,hty,htm⟩,p2,k2⟩
 have a2:=a1.kept k2 (by show ¬ (w.heap.size=w.heap.size+2∨w.heap.size=o);omega)
 have e2:=e1.kept k2 (by show ¬ (w.heap.size+1=w.heap.size+2∨w.heap.size+1=o);omega)
 have K2:Kept (·=o) w w2:=(K1.mono (T:=(·=o)) (fun _ _ h=>h.elim)).via k2 (fun x hx h=>by rcases h with h | h;omega;exact h)
 have c2:=p2.kd
 have ca:=a2.cell 0
 have ce:=e2.cell 0
 have fa:=a2.frozen 0
 have fe:=e2.frozen 0
 have hk0:σ2.k=0:=eq_of_beq hk
 rw[hk0] at c2
 clear hk hk0
 go_wp2_with fail
 refine leaves_cons (f:=116) (args:=#[.pointer (some ⟨w.heap.size,0,none⟩),.pointer (some ⟨w.heap.size+1,0,none⟩)]) (by simp) (by simp[go_sem]) ?_
 refine (rd_idle w.heap.size (w.heap.size+1) _).mono ?_
 rintro e u' w'' ⟨rfl,rfl,rfl⟩
 have a3:=(a2.set 0 (.int .i64 0)).set_other ⟨w.heap.size+1,0,none⟩ (.int .i64 0) (by show w.heap.size≠w.heap.size+1;omega)
 have e3:=(e2.set_other ⟨w.heap.size,0,none⟩ (.int .i64 0) (by show w.heap.size+1≠w.heap.size;omega)).set 0 (.int .i64 0)
 have k3:Kept (fun q=>q=w.heap.size∨q=w.heap.size+1) w2 ((w2.setCell ⟨w.heap.size,0,none⟩ (.int .i64 0)).setCell ⟨w.heap.size+1,0,none⟩ (.int .i64 0)):=((kR.setCell (p:=⟨w.heap.size,0,none⟩) (Or.inl (Or.inl rfl)) _).setCell (p:=⟨w.heap.size+1,0,none⟩) (Or.inl (Or.inr rfl)) _)
 refine⟨_,results_cc Tryz.results74 rfl rfl (load_i a3) (load_e e3),rfl,(K2.setCell (p:=⟨w.heap.size,0,none⟩) (Or.inr (Nat.le_refl _)) _).setCell (p:=⟨w.heap.size+1,0,none⟩) (Or.inr (by show w.heap.size≤w.heap.size+1;omega)) _,tk,kk,hb.kept k3 (by show ¬ (o=w.heap.size∨o=w.heap.size+1);omega),?_,?_⟩
 ·exact (hty.frame (Same.of_kept k3 (fun q hq e=>by omega))).mono (fun q _ h=>by omega)
 ·exact (htm.frame (Same.of_kept k3 (fun q hq e=>by omega))).mono (fun q _ h=>by omega)
theorem parse_ok {s:ByteArray} {σ1 σ2:PS} {t:Tm} {w:World} (hs:s.size≤65536) (hgl:Gl w) (ha:advS s ps0=.ok σ1) (hT:TO bz s 1 σ1 t σ2) (hk:(σ2.k==0)=true) (hv:validB t=true) (hsm:SmTm big t):
  Calls Tryz.prog 32 #[.string s] w fun e w'=>∃ tv,e=.returned (.tuple #[tv,.int .i64 0,.int .i64 0])∧VTm bz w.heap.size t w' tv∧Kept (fun _=>False) w w':=by
 have hmf:∀ (fn:Fn) (first cap:Array Value) (w:World),(Instr.makeFunc fn first cap).run Tryz.prog w=.ok (.func fn first cap) w:=fun _ _ _ _=>rfl
 have hgt:=hgl.lt
 have bR:Blk ((w.alloc Z7).alloc Z7) w.heap.size 27 z27:=(Blk.new w 27 _).alloc _
 have bO:Blk ((w.alloc Z7).alloc Z7) (w.heap.size+1) 27 z27:=Blk.new' 27 _ (by simp)
 have K0:Kept (fun _=>False) w ((w.alloc Z7).alloc Z7):=(kR.alloc _).alloc _
 have G0:Gl ((w.alloc Z7).alloc Z7):=(hgl.alloc _).alloc _
 have Z0:Hid (((w.alloc Z7).alloc Z7).heap.size=w.heap.size+2):=Ld (by simp)
 have HRD:=Ld (rd_ok hs G0 bO (by omega) ha hT hk)
 have HSM:=Ld hsm
 have HVB:=Ld hv
 clear hsm hv hT ha hk
 go_enter Tryz.func32,Tryz.ntmps32
 go_wp2_with fail
 refine HRD.out.mono ?_
 rintro e w1 ⟨rfl,k1,tk,kk,bT,hty,htm⟩
 rw[Z0.out] at hty htm
 obtain⟨ta,tn,tc,rfl⟩:=hty.slice
 obtain⟨ma,mn,mc,rfl⟩:=htm.slice
 have bR1:=bR.kept k1 (by show ¬ w.heap.size=w.heap.size+1;omega)
 have K1:=K0.via k1 (fun x hx e=>by omega)
 have yT:∀ i,w1.cell? ⟨w.heap.size+1,i,none⟩=[Value.int .i64 t.op,.string t.name,.int .i64 t.n,.int .i64 t.ty.kind,.string t.ty.name,.slice ta tn tc,.slice ma mn mc][i]?:=bT.cell
 have HV:=Ld (valid_any hty htm HSM.out)
 rw[HVB.out] at HV
 go_wp2_with fail
 refine HV.out.mono ?_
 rintro e w2 ⟨rfl,k2⟩
 have bR2:=bR1.kept k2 (fun h=>h)
 have bT2:=bT.kept k2 (fun h=>h)
 have K2:=K1.trans k2
 have l2:=bT2.lt
 clear yT
 have yT:∀ i,w2.cell? ⟨w.heap.size+1,i,none⟩=[Value.int .i64 t.op,.string t.name,.int .i64 t.n,.int .i64 t.ty.kind,.string t.ty.name,.slice ta tn tc,.slice ma mn mc][i]?:=bT2.cell
 have HC:=Ld (clone_any (valid_bd HVB.out) w2 _ _ _ (hty.frame (sK k2)) (htm.frame (sK k2)))
 go_wp2_with fail
 refine HC.out.mono ?_
 rintro e w3 ⟨v,u,rfl,hv3,hu3,k3⟩
 obtain⟨va,vn,vc,rfl⟩:=hv3.slice
 obtain⟨ua,un,uc,rfl⟩:=hu3.slice
 unfold tmVal
 have BR:=Ld (bR2.kept k3 (fun h=>h))
 have KP:=Ld (K2.trans k3)
 have V3:=Ld hv3
 have U3:=Ld hu3
 have gR:∀ i,w3.cell? ⟨w.heap.size,i,none⟩=[Value.int .i64 0,.string ⟨#[]⟩,.int .i64 0,.int .i64 0,.string ⟨#[]⟩,.slice none 0 0,.slice none 0 0][i]?:=BR.out.cell
 have fR:∀ i,w3.frozen? ⟨w.heap.size,i,none⟩=false:=BR.out.frozen
 clear bR1 K1 bR2 K2 bT bT2 hv3 hu3 yT
 go_wp2_with fail
 exact bodyPost_ret (results_ctt Tryz.results32 rfl (load_tm (t:=t) (r7 BR.out rfl))) rfl ⟨_,rfl,⟨_,_,rfl,(V3.out.frame (set7' (g:=w.heap.size) (fun q h=>by omega))).mono (fun q _ h=>by omega),(U3.out.frame (set7' (g:=w.heap.size) (fun q h=>by omega))).mono (fun q _ h=>by omega)⟩,k7w KP.out (Or.inr (Nat.le_refl _))⟩
def awkS:ByteArray:=⟨#[120,32,43,32,49,32,60,61,32,99,97,114,100,40,115,41]⟩
def awX:Tm:=.mk 20 ⟨#[120]⟩ 0 ty0 []
def aw1:Tm:=.mk 19 nil0 1 ty0 []
def awS:Tm:=.mk 20 ⟨#[115]⟩ 0 ty0 []
def awAdd:Tm:=nd 22 [awX,aw1]
def awCard:Tm:=nd 47 [awS]
def awT:Tm:=nd 13 [awAdd,awCard]
def nxS (σ:PS):PS:=match advS awkS σ with | .ok q=>q | .error _=>σ
def g1:PS:=nxS ps0
def g2:PS:=nxS g1
def g3:PS:=nxS g2
def g4:PS:=nxS g3
def g5:PS:=nxS g4
def g6:PS:=nxS g5
def g7:PS:=match openS awkS g6 kLpar with | .ok q=>q | .error _=>g6
def g8:PS:=nxS g7
def g9:PS:=match shutS awkS g8 kRpar with | .ok q=>q | .error _=>g8
theorem dn {n:Nat} (hn:lvOK n) {s:ByteArray} {σ σ':PS} {t:Tm} (h:TO bz s (n+1) σ t σ') (ho:opOf n σ'=0):TO bz s n σ t σ':=to_n hn h (ro_any hn (.stop ho))
theorem lv_in (n:Nat) (h:(1≤n∧n≤4)∨(6≤n∧n≤12)):lvOK n:=by unfold lvOK;omega
theorem at13 {s:ByteArray} {σ σ':PS} {t:Tm} (hm:isS σ kMinus=false) (hA:AO bz s σ t σ') (h:(isS σ' kLpar||isS σ' kLbr||isS σ' kTilde)=false):TO bz s 13 σ t σ':=by
 simp only[Bool.or_eq_false_iff] at h
 exact to_13 hm hA (fo_stop h.1.1 h.1.2 h.2)
theorem to7 {s:ByteArray} {σ σ':PS} {t:Tm} (h:TO bz s 13 σ t σ') (ho:[7,8,9,10,11,12].all (fun n=>opOf n σ'==0)=true):TO bz s 7 σ t σ':=by
 simp only[List.all_cons,List.all_nil,Bool.and_true,Bool.and_eq_true,beq_iff_eq] at ho
 exact dn (lv_in 7 (by omega)) (dn (lv_in 8 (by omega)) (dn (lv_in 9 (by omega)) (dn (lv_in 10 (by omega)) (dn (lv_in 11 (by omega)) (dn (lv_in 12 (by omega)) h ho.2.2.2.2.2) ho.2.2.2.2.1) ho.2.2.2.1) ho.2.2.1) ho.2.1) ho.1
theorem to1 {s:ByteArray} {σ σ':PS} {t:Tm} (hn:isS σ kNot=false) (h:TO bz s 6 σ t σ') (ho:[1,2,3,4].all (fun n=>opOf n σ'==0)=true):TO bz s 1 σ t σ':=by
 simp only[List.all_cons,List.all_nil,Bool.and_true,Bool.and_eq_true,beq_iff_eq] at ho
 exact dn (lv_in 1 (by omega)) (dn (lv_in 2 (by omega)) (dn (lv_in 3 (by omega)) (dn (lv_in 4 (by omega)) (to_5 hn h) ho.2.2.2) ho.2.2.1) ho.2.1) ho.1
theorem aw_x:TO bz awkS 13 g1 awX g2:=by
 refine at13 (by kernel_rfl) (ao_word (by kernel_rfl) (by kernel_rfl) ?_) (by kernel_rfl)
 rw[show awX=.mk 20 g1.tx 0 ty0 [] by kernel_rfl]
 exact wo_name (by kernel_rfl) (by kernel_rfl)
theorem aw_1:TO bz awkS 13 g3 aw1 g4:=by
 refine at13 (by kernel_rfl) ?_ (by kernel_rfl)
 rw[show aw1=.mk 19 nil0 g3.n ty0 [] by kernel_rfl]
 exact ao_num (by kernel_rfl) (by kernel_rfl)
theorem aw_s:TO bz awkS 1 g7 awS g8:=by
 refine to1 (by kernel_rfl) (dn (lv_in 6 (by omega)) (to7 (at13 (by kernel_rfl) (ao_word (by kernel_rfl) (by kernel_rfl) ?_) (by kernel_rfl)) (by kernel_rfl)) (by kernel_rfl)) (by kernel_rfl)
 rw[show awS=.mk 20 g7.tx 0 ty0 [] by kernel_rfl]
 exact wo_name (by kernel_rfl) (by kernel_rfl)
theorem aw_card:TO bz awkS 13 g5 awCard g9:=by
 refine at13 (by kernel_rfl) (ao_word (by kernel_rfl) (by kernel_rfl) ?_) (by kernel_rfl)
 rw[show awCard=nd (functionN g5.tx) [awS] by kernel_rfl]
 exact wo_fun (σ1:=g6) (by kernel_rfl) (by kernel_rfl) (by kernel_rfl) (io_any (σ1:=g7) (by kernel_rfl) aw_s (of_decide_eq_true (by kernel_rfl)) (by kernel_rfl))
theorem aw_add:TO bz awkS 7 g1 awAdd g4:=
 dn (lv_in 7 (by omega)) (dn (lv_in 8 (by omega)) (dn (lv_in 9 (by omega)) (dn (lv_in 10 (by omega)) (to_n (lv_in 11 (by omega)) (dn (lv_in 12 (by omega)) aw_x (by kernel_rfl))
  (ro_any (lv_in 11 (by omega)) (.left (o:=22) (σ1:=g3) (by kernel_rfl) rfl (by kernel_rfl) (by kernel_rfl) (dn (lv_in 12 (by omega)) aw_1 (by kernel_rfl)) (.stop (by kernel_rfl))))) (by kernel_rfl)) (by kernel_rfl)) (by kernel_rfl)) (by kernel_rfl)
theorem aw_all:TO bz awkS 1 g1 awT g9:=
 to1 (by kernel_rfl) (to_n (lv_in 6 (by omega)) aw_add (ro_any (lv_in 6 (by omega)) (.never (o:=13) (σ1:=g5) (by kernel_rfl) rfl (by kernel_rfl) (by kernel_rfl) (to7 aw_card (by kernel_rfl))))) (by kernel_rfl)
theorem awk_V:validB awT=true:=by kernel_rfl
def awOut:List UInt8:=[40,120,32,43,32,49,41,32,60,61,32,99,97,114,100,40,115,41]
theorem pc_x:PC bz awX [120]:=pt_name (nm:=⟨#[120]⟩) (N:=0) (ty:=ty0) (kl:=[])
theorem pc_s:PC bz awS [115]:=pt_name (nm:=⟨#[115]⟩) (N:=0) (ty:=ty0) (kl:=[])
theorem pc_1:PC bz aw1 [49]:=pt_int (nm:=nil0) (N:=1) (ty:=ty0) (kl:=[]) (ds:=⟨#[49]⟩) (fun W=>(Tryz.strconv_Itoa_small 1 (by decide) W).mono fun e w' ⟨q1,q2⟩=>⟨by rw[q1,fx5],q2.symm⟩)
theorem oc_x:OC bz awX [120]:=by
 have h:=operand_any (pc_x (bz:=bz))
 rw[show parS awX.op [120]=[120] by kernel_rfl] at h
 exact h
theorem oc_1:OC bz aw1 [49]:=by
 have h:=operand_any (pc_1 (bz:=bz))
 rw[show parS aw1.op [49]=[49] by kernel_rfl] at h
 exact h
theorem pc_add:PC bz awAdd [120,32,43,32,49]:=pt_bin (t:=awAdd) rfl (by kernel_rfl) oc_x oc_1
theorem oc_add:OC bz awAdd [40,120,32,43,32,49,41]:=by
 have h:=operand_any (pc_add (bz:=bz))
 rw[show parS awAdd.op [120,32,43,32,49]=[40,120,32,43,32,49,41] by kernel_rfl] at h
 exact h
theorem pc_kid:∀ i (h:i<[awS].length),PC bz [awS][i] ((fun _=>[115]:Nat→List UInt8) i):=by
 intro i h
 have h1:i=0:=by have:i<1:=h;omega
 subst h1
 exact pc_s
theorem pc_card:PC bz awCard [99,97,114,100,40,115,41]:=pt_card (nm:=nil0) (N:=0) (ty:=ty0) (kl:=[awS]) (list_one (kl:=[awS]) (O:=fun _=>[115]) pc_kid (by decide))
theorem oc_card:OC bz awCard [99,97,114,100,40,115,41]:=by
 have h:=operand_any (pc_card (bz:=bz))
 rw[show parS awCard.op [99,97,114,100,40,115,41]=[99,97,114,100,40,115,41] by kernel_rfl] at h
 exact h
theorem pc_aw:PC bz awT awOut:=pt_bin (t:=awT) rfl (by kernel_rfl) oc_add oc_card
theorem sm_aw:SmTm big awT:=by
 have h0:∀ (n:ByteArray),n.size≤big→∀ (o i:Int),SmTm big (.mk o n i ty0 []):=fun n hn o i=>.mk hn (sm_ty0 _) (fun k h=>by cases h)
 exact sm_nd (all2 (sm_nd (all2 (h0 _ (by decide) _ _) (h0 _ (by decide) _ _))) (sm_nd (all1 (h0 _ (by decide) _ _))))
theorem awake_any (w:World) (hgl:Gl w):Calls Tryz.prog 9 #[] w fun e w'=>e=.returned (.bool true)∧Kept (fun _=>False) w w':=by
 have HP:Hid (Calls Tryz.prog 32 #[.string ⟨#[120,32,43,32,49,32,60,61,32,99,97,114,100,40,115,41]⟩] w fun e w'=>∃ tv,e=.returned (.tuple #[tv,.int .i64 0,.int .i64 0])∧VTm 0 w.heap.size awT w' tv∧Kept (fun _=>False) w w'):=Ld (parse_ok (s:=awkS) (by decide) hgl (by kernel_rfl:advS awkS ps0=.ok g1) aw_all (by kernel_rfl) awk_V (sm_aw))
 go_enter Tryz.func9,Tryz.ntmps9
 go_wp2_with fail
 refine HP.out.mono ?_
 rintro e w1 ⟨tv,rfl,⟨tk,kk,rfl,hty,htm⟩,k1⟩
 obtain⟨ta,tn,tc,rfl⟩:=hty.slice
 obtain⟨ma,mn,mc,rfl⟩:=htm.slice
 have hmn:mn=2:=htm.len
 subst hmn
 have HF:Hid (Calls Tryz.prog 33 #[.agg #[.int .i64 13,.string nil0,.int .i64 0,.int .i64 0,.string ⟨#[]⟩,.slice ta tn tc,.slice ma 2 mc]] (w1.alloc (.cells #[.int .i64 13,.string nil0,.int .i64 0,.int .i64 0,.string ⟨#[]⟩,.slice ta tn tc,.slice ma 2 mc] 27)) fun e w'=>e=.returned (.string ⟨awOut.toArray⟩)∧Kept (fun _=>False) (w1.alloc (.cells #[.int .i64 13,.string nil0,.int .i64 0,.int .i64 0,.string ⟨#[]⟩,.slice ta tn tc,.slice ma 2 mc] 27)) w'):=Ld (format_ok (t:=awT) (hty.frame (Same.alloc w1 _)) (htm.frame (Same.alloc w1 _)) pc_aw awk_V sm_aw (by decide) (by decide))
 have K1:Kept (fun _=>False) w (w1.alloc (.cells #[.int .i64 13,.string nil0,.int .i64 0,.int .i64 0,.string ⟨#[]⟩,.slice ta tn tc,.slice ma 2 mc] 27)):=k1.alloc _
 clear hty htm
 have htv:tmVal awT (.slice ta tn tc) (.slice ma 2 mc)=.agg #[.int .i64 13,.string nil0,.int .i64 0,.int .i64 0,.string ⟨#[]⟩,.slice ta tn tc,.slice ma 2 mc]:=rfl
 rw[htv]
 clear htv
 have HN:Hid (nil0=⟨#[]⟩):=Ld rfl
 generalize nil0=nl at *
 go_wp2_with fail
 refine HF.out.mono ?_
 rintro e w2 ⟨rfl,k2⟩
 have K2:=K1.trans k2
 have e1:((⟨awOut.toArray⟩:ByteArray).toList==[40,120,32,43,32,49,41,32,60,61,32,99,97,114,100,40,115,41])=true:=by kernel_rfl
 generalize (⟨awOut.toArray⟩:ByteArray)=ao at *
 have bS:Blk (w2.alloc (.cells #[.string ⟨#[120,49,50]⟩,.string ⟨#[120,49]⟩] 9)) w2.heap.size 9 [.string ⟨#[120,49,50]⟩,.string ⟨#[120,49]⟩]:=Blk.new w2 9 _
 have HX:=Ld (fresh_x _ w2.heap.size (bS.cell 0) (bS.cell 1))
 go_wp2_with fail
 refine HX.out.mono ?_
 rintro e w3 ⟨rfl,k3⟩
 go_wp2_with fail
 go_ret
 exact⟨rfl,(K2.alloc _).trans k3⟩
end Go.Proofs.YtdmebjbkccjhbaaGreatDoor
namespace Go.Proofs.YtdmebjbkccjhbaaGreatDoor
open Go.ChangeShapes Go.WideShapes Go.ChangeAt Go.RowKit
theorem own0:ownKnob Tryz.prog.godebug=none:=by kernel_rfl
def EsOk (w:World) (e:Ending) (w':World):Prop:=e=.returned (.bool true)∧Kept (fun _=>False) w w'
end Go.Proofs.YtdmebjbkccjhbaaGreatDoor
namespace Go.Proofs.YtdmebjbkccjhbaaGreatDoor
open Go.RowKit
theorem rnmR_bd (t:Tm) (x y:ByteArray):BdTm (rnmR t x y).1:=by
 have h0:BdTm tm0:=.mk (by decide) (.mk (by decide) (fun t h=>by cases h)) (fun t h=>by cases h)
 unfold rnmR
 split
 ·split
  ·rename_i h;exact ok_bd (valid_ok h)
  ·exact h0
 ·exact h0
theorem rm_any {t:Tm} {x y:ByteArray} {w:World} {tk kk:Value} (hgl:Gl w) (hp:P10 w) (h1:TyL w.heap.size (fun _=>True) w t.ty.kids tk) (h2:TmL w.heap.size (fun _=>True) w t.kids kk) (hs:SmTm big t) (hx:x.size≤maxLen) (hy:y.size≤maxLen):
  Calls Tryz.prog 7 #[tmVal t tk kk,.string x,.string y] w (EsOk w):=by
 obtain⟨p,n,c,rfl⟩:=h1.slice
 obtain⟨ma,mn,mc,rfl⟩:=h2.slice
 have H15:=Ld (fun W (k:Kept (fun _=>False) w W)=>awake_any W (hgl.kept k (fun h=>h) (fun h=>h)))
 have HA:=Ld (fun W (k:Kept (fun _=>False) w W)=>ren_any (x:=x) (y:=y) k.size (h1.frame (sK k)) (h2.frame (sK k)) hs hx hy (hp.kept k))
 have HB:=Ld (fun W (k:Kept (fun _=>False) w W)=>rren_any (x:=x) (y:=y) (h1.frame (sK k)) (h2.frame (sK k)) hs hy)
 have HD:=Ld (rnmR_bd t x y)
 generalize rnmR t x y=rr at *
 obtain⟨r,er⟩:=rr
 clear h1 h2 hs hx hy hgl hp
 have hbe:decide (er=er)=true:=decide_eq_true rfl
 unfold tmVal at HA HB ⊢
 have B0:Hid (Blk (w.alloc (.cells #[.int .i64 t.op,.string t.name,.int .i64 t.n,.int .i64 t.ty.kind,.string t.ty.name,.slice p n c,.slice ma mn mc] 27)) w.heap.size 27 [Value.int .i64 t.op,.string t.name,.int .i64 t.n,.int .i64 t.ty.kind,.string t.ty.name,.slice p n c,.slice ma mn mc]∧Kept (fun _=>False) w (w.alloc (.cells #[.int .i64 t.op,.string t.name,.int .i64 t.n,.int .i64 t.ty.kind,.string t.ty.name,.slice p n c,.slice ma mn mc] 27))):=Ld ⟨Blk.new w 27 _,kR.alloc _⟩
 go_enter Tryz.func7,Tryz.ntmps7
 go_upto_region 1 with (fail)
 generalize w.alloc (.cells #[.int .i64 t.op,.string t.name,.int .i64 t.n,.int .i64 t.ty.kind,.string t.ty.name,.slice p n c,.slice ma mn mc] 27)=w1 at *
 have HA1:=Ld (HA.out w1 B0.out.2)
 clear HA
 have gA:∀ i,w1.cell? ⟨w.heap.size,i,none⟩=[Value.int .i64 t.op,.string t.name,.int .i64 t.n,.int .i64 t.ty.kind,.string t.ty.name,.slice p n c,.slice ma mn mc][i]?:=B0.out.1.cell
 go_wp2_with fail
 clear gA
 refine HA1.out.mono ?_
 rintro e w2 ⟨tk,kk,rfl,hty,htm,k⟩
 have hty:TyL _ _ w2 r.ty.kids tk:=hty
 have htm:TmL _ _ w2 r.kids kk:=htm
 obtain⟨p1,n1,c1,rfl⟩:=hty.slice
 obtain⟨q1,m1,d1,rfl⟩:=htm.slice
 have B2:Hid (Blk w2 w.heap.size 27 [Value.int .i64 t.op,.string t.name,.int .i64 t.n,.int .i64 t.ty.kind,.string t.ty.name,.slice p n c,.slice ma mn mc]∧Kept (fun _=>False) w w2∧TyL w.heap.size (fun _=>True) w2 r.ty.kids (.slice p1 n1 c1)∧TmL w.heap.size (fun _=>True) w2 r.kids (.slice q1 m1 d1)):=Ld ⟨B0.out.1.kept k (fun e=>e),B0.out.2.trans k,hty.mono (fun _ _ _=>trivial),htm.mono (fun _ _ _=>trivial)⟩
 clear hty htm k B0 HA1
 unfold tmVal
 go_upto_region 2 with (fail)
 have k:Kept (fun _=>False) w2 (w2.alloc (.cells #[.int .i64 r.op,.string r.name,.int .i64 r.n,.int .i64 r.ty.kind,.string r.ty.name,.slice p1 n1 c1,.slice q1 m1 d1] 27)):=kR.alloc _
 have B3:Hid (Blk (w2.alloc (.cells #[.int .i64 r.op,.string r.name,.int .i64 r.n,.int .i64 r.ty.kind,.string r.ty.name,.slice p1 n1 c1,.slice q1 m1 d1] 27)) w.heap.size 27 [Value.int .i64 t.op,.string t.name,.int .i64 t.n,.int .i64 t.ty.kind,.string t.ty.name,.slice p n c,.slice ma mn mc]∧Kept (fun _=>False) w (w2.alloc (.cells #[.int .i64 r.op,.string r.name,.int .i64 r.n,.int .i64 r.ty.kind,.string r.ty.name,.slice p1 n1 c1,.slice q1 m1 d1] 27))∧TyL w.heap.size (fun _=>True) (w2.alloc (.cells #[.int .i64 r.op,.string r.name,.int .i64 r.n,.int .i64 r.ty.kind,.string r.ty.name,.slice p1 n1 c1,.slice q1 m1 d1] 27)) r.ty.kids (.slice p1 n1 c1)∧TmL w.heap.size (fun _=>True) (w2.alloc (.cells #[.int .i64 r.op,.string r.name,.int .i64 r.n,.int .i64 r.ty.kind,.string r.ty.name,.slice p1 n1 c1,.slice q1 m1 d1] 27)) r.kids (.slice q1 m1 d1)∧Blk (w2.alloc (.cells #[.int .i64 r.op,.string r.name,.int .i64 r.n,.int .i64 r.ty.kind,.string r.ty.name,.slice p1 n1 c1,.slice q1 m1 d1] 27)) w2.heap.size 27 [Value.int .i64 r.op,.string r.name,.int .i64 r.n,.int .i64 r.ty.kind,.string r.ty.name,.slice p1 n1 c1,.slice q1 m1 d1]):=Ld ⟨B2.out.1.kept k (fun e=>e),B2.out.2.1.trans k,B2.out.2.2.1.frame (sK k),B2.out.2.2.2.frame (sK k),Blk.new w2 27 _⟩
 clear k B2
 generalize w2.alloc (.cells #[.int .i64 r.op,.string r.name,.int .i64 r.n,.int .i64 r.ty.kind,.string r.ty.name,.slice p1 n1 c1,.slice q1 m1 d1] 27)=w3 at *
 generalize w2.heap.size=P at *
 have HB1:=Ld (HB.out w3 B3.out.2.1)
 clear HB
 have gA:∀ i,w3.cell? ⟨w.heap.size,i,none⟩=[Value.int .i64 t.op,.string t.name,.int .i64 t.n,.int .i64 t.ty.kind,.string t.ty.name,.slice p n c,.slice ma mn mc][i]?:=B3.out.1.cell
 go_wp2_with fail
 clear gA
 refine HB1.out.mono ?_
 rintro e w4 ⟨tk,kk,rfl,hty,htm,k⟩
 have hty:TyL _ _ w4 r.ty.kids tk:=hty
 have htm:TmL _ _ w4 r.kids kk:=htm
 obtain⟨p2,n2,c2,rfl⟩:=hty.slice
 obtain⟨q2,m2,d2,rfl⟩:=htm.slice
 have B4:Hid (Kept (fun _=>False) w w4∧TyL w.heap.size (fun _=>True) w4 r.ty.kids (.slice p1 n1 c1)∧TmL w.heap.size (fun _=>True) w4 r.kids (.slice q1 m1 d1)∧Blk w4 P 27 [Value.int .i64 r.op,.string r.name,.int .i64 r.n,.int .i64 r.ty.kind,.string r.ty.name,.slice p1 n1 c1,.slice q1 m1 d1]∧TyL w.heap.size (fun _=>True) w4 r.ty.kids (.slice p2 n2 c2)∧TmL w.heap.size (fun _=>True) w4 r.kids (.slice q2 m2 d2)):=Ld ⟨B3.out.2.1.trans k,B3.out.2.2.1.frame (sK k),B3.out.2.2.2.1.frame (sK k),B3.out.2.2.2.2.kept k (fun e=>e),hty.mono (fun _ _ _=>trivial),htm.mono (fun _ _ _=>trivial)⟩
 clear hty htm k B3 HB1
 unfold tmVal
 go_upto_region 3 with (fail)
 have k:Kept (fun _=>False) w4 (w4.alloc (.cells #[.int .i64 r.op,.string r.name,.int .i64 r.n,.int .i64 r.ty.kind,.string r.ty.name,.slice p2 n2 c2,.slice q2 m2 d2] 27)):=kR.alloc _
 have B5:Hid (Kept (fun _=>False) w (w4.alloc (.cells #[.int .i64 r.op,.string r.name,.int .i64 r.n,.int .i64 r.ty.kind,.string r.ty.name,.slice p2 n2 c2,.slice q2 m2 d2] 27))∧Blk (w4.alloc (.cells #[.int .i64 r.op,.string r.name,.int .i64 r.n,.int .i64 r.ty.kind,.string r.ty.name,.slice p2 n2 c2,.slice q2 m2 d2] 27)) P 27 [Value.int .i64 r.op,.string r.name,.int .i64 r.n,.int .i64 r.ty.kind,.string r.ty.name,.slice p1 n1 c1,.slice q1 m1 d1]∧Blk (w4.alloc (.cells #[.int .i64 r.op,.string r.name,.int .i64 r.n,.int .i64 r.ty.kind,.string r.ty.name,.slice p2 n2 c2,.slice q2 m2 d2] 27)) w4.heap.size 27 [Value.int .i64 r.op,.string r.name,.int .i64 r.n,.int .i64 r.ty.kind,.string r.ty.name,.slice p2 n2 c2,.slice q2 m2 d2]):=Ld ⟨B4.out.1.trans k,B4.out.2.2.2.1.kept k (fun e=>e),Blk.new w4 27 _⟩
 have HSM:=Ld (rsameTm_any HD.out r (w4.alloc (.cells #[.int .i64 r.op,.string r.name,.int .i64 r.n,.int .i64 r.ty.kind,.string r.ty.name,.slice p2 n2 c2,.slice q2 m2 d2] 27)) _ _ _ _ _ _ (B4.out.2.1.frame (sK k)) (B4.out.2.2.1.frame (sK k)) (B4.out.2.2.2.2.1.frame (sK k)) (B4.out.2.2.2.2.2.frame (sK k)))
 rw[(tmEq_iff r r).2 rfl] at HSM
 unfold tmVal at HSM
 clear k B4 HD
 generalize w4.alloc (.cells #[.int .i64 r.op,.string r.name,.int .i64 r.n,.int .i64 r.ty.kind,.string r.ty.name,.slice p2 n2 c2,.slice q2 m2 d2] 27)=w5 at *
 generalize w4.heap.size=Q at *
 have gP:∀ i,w5.cell? ⟨P,i,none⟩=[Value.int .i64 r.op,.string r.name,.int .i64 r.n,.int .i64 r.ty.kind,.string r.ty.name,.slice p1 n1 c1,.slice q1 m1 d1][i]?:=B5.out.2.1.cell
 have gQ:∀ i,w5.cell? ⟨Q,i,none⟩=[Value.int .i64 r.op,.string r.name,.int .i64 r.n,.int .i64 r.ty.kind,.string r.ty.name,.slice p2 n2 c2,.slice q2 m2 d2][i]?:=B5.out.2.2.cell
 go_wp2_with fail
 clear gP gQ
 refine HSM.out.mono ?_
 rintro e w6 ⟨rfl,k6⟩
 have K6:=Ld (B5.out.1.trans k6)
 clear k6 HSM B5
 go_wp2_with fail
 refine (H15.out w6 K6.out).mono ?_
 rintro e w99 ⟨rfl,k99⟩
 have HK99:=Ld (K6.out.trans k99)
 clear k99
 go_wp2_with fail
 go_ret
 exact⟨rfl,HK99.out⟩
end Go.Proofs.YtdmebjbkccjhbaaGreatDoor
namespace Go.Proofs.YtdmebjbkccjhbaaGreatDoor
open Go.ChangeShapes Go.WideShapes Go.ChangeAt Go.RowKit
theorem gPow : Tryz.prog.globalNamed "internal/strconv.uint64pow10" = some 0 := by kernel_rfl
theorem gPowT:(Tryz.prog.globals[0]?).map (·.type)=some 219:=by kernel_rfl
theorem p10_of_laid {W:World} (h:laidMetH Tryz.prog Rows.termFreesRow.laid W):P10 W:=by
 have h0:laidMet Tryz.prog Rows.termFreesRow.laid W:=h
 exact Lib.tabIs_of_head gPow gPowT Tryz.underlying219 Tryz.underlying189 (by kernel_rfl) (by kernel_rfl) h0.tail.tail
end Go.Proofs.YtdmebjbkccjhbaaGreatDoor
namespace Go.Proofs.YtdmebjbkccjhbaaGreatDoor
open Go.RowKit
section
variable {H:Type} {enc:TypeId×Value→H} {w:World} {spare:Nat→Bool} {held:Bool}
theorem cells_3:Tryz.prog.cellsOf 3=1:=by kernel_rfl
theorem cells_9:Tryz.prog.cellsOf 9=1:=by kernel_rfl
theorem cells_22:Tryz.prog.cellsOf 22=1:=by kernel_rfl
theorem cells_24:Tryz.prog.cellsOf 24=3:=by kernel_rfl
theorem cells_25:Tryz.prog.cellsOf 25=1:=by kernel_rfl
theorem cells_27:Tryz.prog.cellsOf 27=7:=by kernel_rfl
theorem at_some {α:Type} {x:Option α} {l:List α} {i:Nat} (h:x=l[i]?) (hi:i<l.length):∃ y,x=some y:=⟨l[i],by rw[h,List.getElem?_eq_getElem hi]⟩
theorem cell_plain {a:Addr} {v:Value} (h:w.cell? a=some v):a=⟨a.block,a.off,none⟩:=by
 obtain⟨b,o,sp⟩:=a
 cases sp with
 | none=>rfl
 | some k=>
  unfold World.cell? at h
  cases hb:w.heap[b]? with
  | none=>simp[hb] at h
  | some ob=>cases ob <;> simp[hb] at h
theorem add_plain (b o n:Nat):(⟨b,o,none⟩:Addr).add n=⟨b,o+n,none⟩:=by unfold Addr.add;split <;> simp_all
theorem add_zero (a:Addr):a.add 0=a:=rfl
theorem elems_at {α:Type} {a:Addr} {len k:Nat} {f:List Value→Option α} {elems:List α} (hl:elems.length=len) (hk:0<k) (h:∀ i,i<len→(w.cells? 0 (a.add (i*k)) k).bind f=elems[i]?) (h0:0<len):
  ∃ b o,a=⟨b,o,none⟩∧∀ i,i<len→∃ cs y,cs.length=k∧(∀ j,j<k→w.cell? ⟨b,o+i*k+j,none⟩=cs[j]?)∧f cs=some y:=by
 have hc:∀ i,i<len→∃ cs y,w.cells? 0 (a.add (i*k)) k=some cs∧f cs=some y:=by
  intro i hi
  obtain⟨y,hy⟩:=at_some (h i hi) (by omega)
  obtain⟨cs,h1,h2⟩:=Option.bind_eq_some_iff.1 hy
  exact⟨cs,y,h1,h2⟩
 obtain⟨cs,y,h1,h2⟩:=hc 0 h0
 obtain⟨_,hl',hcell⟩:=World.cells?_some h1
 have h3:=hcell 0 hk
 rw[Nat.zero_mul,add_zero,add_zero,List.getElem?_eq_getElem (by omega)] at h3
 have ha:=cell_plain h3
 refine⟨a.block,a.off,ha,fun i hi=>?_⟩
 obtain⟨cs,y,h1,h2⟩:=hc i hi
 obtain⟨_,hl',hcell⟩:=World.cells?_some h1
 refine⟨cs,y,hl',fun j hj=>?_,h2⟩
 rw[← hcell j hj]
 rw[ha,add_plain,add_plain]
theorem list3 {α:Type} {l:List α} (h:l.length=3):∃ a b c,l=[a,b,c]:=by
 match l,h with
 | [a,b,c],_=>exact⟨a,b,c,rfl⟩
theorem list7 {α:Type} {l:List α} (h:l.length=7):∃ a b c d e f g,l=[a,b,c,d,e,f,g]:=by
 match l,h with
 | [a,b,c,d,e,f,g],_=>exact⟨a,b,c,d,e,f,g,rfl⟩
theorem open_ty (fuel:Nat):∀ {cs:List Value} {x:DataW H×List MemPlace},DataW.trod enc Tryz.prog w 0 spare held fuel 24 cs=some x →
  ∃ (t:Ty) (tk:Value),cs=[.int .i64 t.kind,.string t.name,tk]∧TyL w.heap.size (fun _=>True) w t.kids tk∧SmTy big t:=by
 induction fuel using Nat.strongRecOn with
 | _ fuel ih=>
  intro cs x h
  obtain⟨xs,n,rfl,-,hlen,hxl,hf⟩:=DataW.trod_struct Tryz.underlying24 h
  rw[cells_24] at hlen
  obtain⟨c0,c1,c2,rfl⟩:=list3 hlen
  have hx3:xs.length=3:=hxl
  obtain⟨y0,e0⟩:=at_some (hf 0 _ rfl) (by omega)
  obtain⟨y1,e1⟩:=at_some (hf 1 _ rfl) (by omega)
  obtain⟨y2,e2⟩:=at_some (hf 2 _ rfl) (by omega)
  have e0:DataW.trod enc Tryz.prog w 0 spare held n 3 ((([c0,c1,c2]:List Value).drop 0).take (Tryz.prog.cellsOf 3))=some y0:=e0
  have e1:DataW.trod enc Tryz.prog w 0 spare held n 9 ((([c0,c1,c2]:List Value).drop 1).take (Tryz.prog.cellsOf 9))=some y1:=e1
  have e2:DataW.trod enc Tryz.prog w 0 spare held n 22 ((([c0,c1,c2]:List Value).drop 2).take (Tryz.prog.cellsOf 22))=some y2:=e2
  rw[cells_3] at e0
  rw[cells_9] at e1
  rw[cells_22] at e2
  obtain⟨k,hk,-,-⟩:=DataW.trod_int Tryz.underlying3 e0
  obtain⟨s,hs,-,hsz⟩:=DataW.trod_string Tryz.underlying9 e1
  obtain rfl:c0=_:=List.head_eq_of_cons_eq hk
  obtain rfl:c1=_:=List.head_eq_of_cons_eq hs
  have hsz:s.size≤big:=by unfold maxLen at hsz;unfold big;omega
  rcases DataW.trod_slice Tryz.underlying22 e2 with ⟨hc,-⟩ | ⟨a,len,cap,elems,rest,m,rfl,hc,-,-,hl,hm,hel,helt,-,-⟩
  ·obtain rfl:c2=_:=List.head_eq_of_cons_eq hc
   exact⟨.mk k s [],_,rfl,.nil (Or.inl rfl),.mk hsz (fun t h=>by cases h)⟩
  ·obtain rfl:c2=_:=List.head_eq_of_cons_eq hc
   by_cases h0:len=0
   ·subst h0
    exact⟨.mk k s [],_,rfl,.nil (Or.inr ⟨_,_,rfl⟩),.mk hsz (fun t h=>by cases h)⟩
   ·rw[cells_24] at helt
    obtain⟨b,o,rfl,hat⟩:=elems_at hel (by decide) helt (by omega)
    have iTy:Inhabited (Ty×Value):=⟨(ty0,.slice none 0 0)⟩
    obtain⟨F,hF⟩:=Go.Deep.choose_lt (α:=Ty×Value) (n:=len) (p:=fun i q=>(w.cell? ⟨b,o+i*3,none⟩=some (.int .i64 q.1.kind)∧w.cell? ⟨b,o+i*3+1,none⟩=some (.string q.1.name)∧w.cell? ⟨b,o+i*3+2,none⟩=some q.2)∧TyL w.heap.size (fun _=>True) w q.1.kids q.2∧SmTy big q.1) (fun i hi=>by
     obtain⟨cs,y,hcl,hcell,hy⟩:=hat i hi
     obtain⟨t,tk,rfl,ht,hst⟩:=ih m (by omega) hy
     exact⟨(t,tk),⟨hcell 0 (by decide),hcell 1 (by decide),hcell 2 (by decide)⟩,ht,hst⟩)
    have hlen2:((List.range len).map fun i=>(F i).1).length=len:=by simp
    have hget:∀ i (h:i<((List.range len).map fun i=>(F i).1).length),((List.range len).map fun i=>(F i).1)[i]=(F i).1:=by intro i h;simp
    have hT:TyL w.heap.size (fun _=>True) w ((List.range len).map fun i=>(F i).1) (.slice (some ⟨b,o,none⟩) ((List.range len).map fun i=>(F i).1).length cap):=by
     refine TyL.mk (fun i=>(F i).2) (by intro e;rw[e] at hlen2;simp at hlen2;omega) trivial (by omega) (fun i h=>?_) (fun i h=>?_) (fun h9=>absurd (cell_lt (hF 0 (by omega)).1.1) (Nat.not_lt.2 h9))
     ·rw[hget i h];exact (hF i (by omega)).1
     ·rw[hget i h];exact (hF i (by omega)).2.1
    rw[hlen2] at hT
    refine⟨.mk k s ((List.range len).map fun i=>(F i).1),_,rfl,hT,.mk hsz (fun t ht=>?_)⟩
    obtain⟨i,hi,rfl⟩:=List.mem_map.1 ht
    exact (hF i (List.mem_range.1 hi)).2.2
theorem open_tm (fuel:Nat):∀ {cs:List Value} {x:DataW H×List MemPlace},DataW.trod enc Tryz.prog w 0 spare held fuel 27 cs=some x →
  ∃ (t:Tm) (tk kk:Value),cs=tmCells t tk kk∧TyL w.heap.size (fun _=>True) w t.ty.kids tk∧TmL w.heap.size (fun _=>True) w t.kids kk∧SmTm big t:=by
 induction fuel using Nat.strongRecOn with
 | _ fuel ih=>
  intro cs x h
  obtain⟨xs,n,rfl,-,hlen,hxl,hf⟩:=DataW.trod_struct Tryz.underlying27 h
  rw[cells_27] at hlen
  obtain⟨c0,c1,c2,c3,c4,c5,c6,rfl⟩:=list7 hlen
  have hx3:xs.length=5:=hxl
  obtain⟨y0,e0⟩:=at_some (hf 0 _ rfl) (by omega)
  obtain⟨y1,e1⟩:=at_some (hf 1 _ rfl) (by omega)
  obtain⟨y2,e2⟩:=at_some (hf 2 _ rfl) (by omega)
  obtain⟨y3,e3⟩:=at_some (hf 3 _ rfl) (by omega)
  obtain⟨y4,e4⟩:=at_some (hf 4 _ rfl) (by omega)
  have e0:DataW.trod enc Tryz.prog w 0 spare held n 3 ((([c0,c1,c2,c3,c4,c5,c6]:List Value).drop 0).take (Tryz.prog.cellsOf 3))=some y0:=e0
  have e1:DataW.trod enc Tryz.prog w 0 spare held n 9 ((([c0,c1,c2,c3,c4,c5,c6]:List Value).drop 1).take (Tryz.prog.cellsOf 9))=some y1:=e1
  have e2:DataW.trod enc Tryz.prog w 0 spare held n 3 ((([c0,c1,c2,c3,c4,c5,c6]:List Value).drop 2).take (Tryz.prog.cellsOf 3))=some y2:=e2
  have e3:DataW.trod enc Tryz.prog w 0 spare held n 24 ((([c0,c1,c2,c3,c4,c5,c6]:List Value).drop 3).take (Tryz.prog.cellsOf 24))=some y3:=e3
  have e4:DataW.trod enc Tryz.prog w 0 spare held n 25 ((([c0,c1,c2,c3,c4,c5,c6]:List Value).drop 6).take (Tryz.prog.cellsOf 25))=some y4:=e4
  rw[cells_3] at e0 e2
  rw[cells_9] at e1
  rw[cells_24] at e3
  rw[cells_25] at e4
  obtain⟨k,hk,-,-⟩:=DataW.trod_int Tryz.underlying3 e0
  obtain⟨s,hs,-,hsz⟩:=DataW.trod_string Tryz.underlying9 e1
  obtain⟨N,hN,-,-⟩:=DataW.trod_int Tryz.underlying3 e2
  obtain⟨ty,tk,hty,htl,hts⟩:=open_ty n e3
  obtain rfl:c0=_:=List.head_eq_of_cons_eq hk
  obtain rfl:c1=_:=List.head_eq_of_cons_eq hs
  obtain rfl:c2=_:=List.head_eq_of_cons_eq hN
  have hty:[c3,c4,c5]=[.int .i64 ty.kind,.string ty.name,tk]:=hty
  simp only[List.cons.injEq,and_true] at hty
  obtain⟨rfl,rfl,rfl⟩:=hty
  have hsz:s.size≤big:=by unfold maxLen at hsz;unfold big;omega
  rcases DataW.trod_slice Tryz.underlying25 e4 with ⟨hc,-⟩ | ⟨a,len,cap,elems,rest,m,rfl,hc,-,-,hl,hm,hel,helt,-,-⟩
  ·obtain rfl:c6=_:=List.head_eq_of_cons_eq hc
   exact⟨.mk k s N ty [],_,_,rfl,htl,.nil (Or.inl rfl),.mk hsz hts (fun t h=>by cases h)⟩
  ·obtain rfl:c6=_:=List.head_eq_of_cons_eq hc
   by_cases h0:len=0
   ·subst h0
    exact⟨.mk k s N ty [],_,_,rfl,htl,.nil (Or.inr ⟨_,_,rfl⟩),.mk hsz hts (fun t h=>by cases h)⟩
   ·rw[cells_27] at helt
    obtain⟨b,o,rfl,hat⟩:=elems_at hel (by decide) helt (by omega)
    have iTm:Inhabited (Tm×Value×Value):=⟨(.mk 0 ⟨#[]⟩ 0 ty0 [],.slice none 0 0,.slice none 0 0)⟩
    obtain⟨F,hF⟩:=Go.Deep.choose_lt (α:=Tm×Value×Value) (n:=len) (p:=fun i q=>(w.cell? ⟨b,o+i*7,none⟩=some (.int .i64 q.1.op)∧w.cell? ⟨b,o+i*7+1,none⟩=some (.string q.1.name)∧w.cell? ⟨b,o+i*7+2,none⟩=some (.int .i64 q.1.n)∧w.cell? ⟨b,o+i*7+3,none⟩=some (.int .i64 q.1.ty.kind)∧w.cell? ⟨b,o+i*7+4,none⟩=some (.string q.1.ty.name)∧w.cell? ⟨b,o+i*7+5,none⟩=some q.2.1∧w.cell? ⟨b,o+i*7+6,none⟩=some q.2.2)∧TyL w.heap.size (fun _=>True) w q.1.ty.kids q.2.1∧TmL w.heap.size (fun _=>True) w q.1.kids q.2.2∧SmTm big q.1) (fun i hi=>by
     obtain⟨cs,y,hcl,hcell,hy⟩:=hat i hi
     obtain⟨t,tk,kk,rfl,ht,hm,hst⟩:=ih m (by omega) hy
     exact⟨(t,tk,kk),⟨hcell 0 (by decide),hcell 1 (by decide),hcell 2 (by decide),hcell 3 (by decide),hcell 4 (by decide),hcell 5 (by decide),hcell 6 (by decide)⟩,ht,hm,hst⟩)
    have hlen2:((List.range len).map fun i=>(F i).1).length=len:=by simp
    have hget:∀ i (h:i<((List.range len).map fun i=>(F i).1).length),((List.range len).map fun i=>(F i).1)[i]=(F i).1:=by intro i h;simp
    have hT:TmL w.heap.size (fun _=>True) w ((List.range len).map fun i=>(F i).1) (.slice (some ⟨b,o,none⟩) ((List.range len).map fun i=>(F i).1).length cap):=by
     refine TmL.mk (fun i=>(F i).2.1) (fun i=>(F i).2.2) (by intro e;rw[e] at hlen2;simp at hlen2;omega) trivial (by omega) (fun i h=>?_) (fun i h=>?_) (fun i h=>?_) (fun h9=>absurd (cell_lt (hF 0 (by omega)).1.1) (Nat.not_lt.2 h9))
     ·rw[hget i h];exact (hF i (by omega)).1
     ·rw[hget i h];exact (hF i (by omega)).2.1
     ·rw[hget i h];exact (hF i (by omega)).2.2.1
    rw[hlen2] at hT
    refine⟨.mk k s N ty ((List.range len).map fun i=>(F i).1),_,_,rfl,htl,hT,.mk hsz hts (fun t ht=>?_)⟩
    obtain⟨i,hi,rfl⟩:=List.mem_map.1 ht
    exact (hF i (List.mem_range.1 hi)).2.2.2
end
end Go.Proofs.YtdmebjbkccjhbaaGreatDoor
namespace Go.Proofs.YtdmebjbkccjhbaaGreatDoor
open Go.ChangeShapes Go.WideShapes Go.ChangeAt Go.RowKit
theorem below_of_kept {w w':World} (k:Kept (fun _=>False) w w'):Below w.heap.size w w':=⟨k.os,k.tape,k.output,k.size,fun q hq=>k.block q hq (fun e=>e)⟩
theorem laidOut0:laidOutB Tryz.prog=true:=by kernel_rfl
theorem back_of {H:Type} {enc:TypeId×Value→H} {W W':World} {T:TypeId} {v:Value} {d:DataW H} {p:List MemPlace} (h1:Tryz.prog.readableRec T=true) (h2:T<Tryz.prog.types.size) (h:DataW.Trod enc Tryz.prog W 0 (fun _=>true) true T v d p) (k:Kept (fun _=>False) W W') (hlt:∀ x∈p,x.block<W.heap.size):
  DataW.Trod enc Tryz.prog W' 0 (fun b=>decide (b<W.heap.size)) true T v d p:=Below.trod laidOut0 h1 h2 h (below_of_kept k) hlt
theorem size_ok {n:Nat} (h:n<248):n<Tryz.prog.types.size:=Nat.lt_of_lt_of_le h (of_decide_eq_true (by kernel_rfl))
end Go.Proofs.YtdmebjbkccjhbaaGreatDoor
namespace Go.Proofs.YtdmebjbkccjhbaaGreatDoor
open Go.ChangeShapes Go.WideShapes Go.ChangeAt Go.RowKit
theorem arg_string {H:Type} {enc:TypeId×Value→H} {W:World} {v:Value} {d:DataW H} {p:List MemPlace} {r:Reach} {b0:Nat} (hval:Value.okWide Tryz.prog W r b0 9 v) (h:DataW.Trod enc Tryz.prog W 0 (fun _=>true) true 9 v d p):
  ∃ s:ByteArray,v=.string s∧s.size≤maxLen:=by
 obtain⟨s,h1,_,_,h2⟩:=ChangeMaps.open_string Tryz.underlying9 hval h
 exact⟨s,h1,h2⟩
theorem back_string {H:Type} {enc:TypeId×Value→H} {W W':World} {v:Value} {d:DataW H} {p:List MemPlace} (h:DataW.Trod enc Tryz.prog W 0 (fun _=>true) true 9 v d p) (k:Kept (fun _=>False) W W') (hlt:∀ x∈p,x.block<W.heap.size):
  DataW.Trod enc Tryz.prog W' 0 (fun b=>decide (b<W.heap.size)) true 9 v d p:=back_of (by kernel_rfl) (size_ok (by decide)) h k hlt
end Go.Proofs.YtdmebjbkccjhbaaGreatDoor
