/- A part. -/
import Derived.Test.YtfhedienjnfdcaaGreatDoorQ10
import Derived.StillTailTactics
set_option linter.unusedVariables false
set_option linter.unusedSimpArgs false
set_option maxRecDepth 100000
set_option maxHeartbeats 32000000
namespace Go.Proofs.YtfhedienjnfdcaaGreatDoor
open Go.RowKit
theorem f_iff (most deep:Nat) (hmo:most≤100000):∀ (t:Tm) (d c:Nat),c≤most→d≤deep+1→((fS most deep t d c).1=true↔OkTm t∧c+tmN t≤most∧d+tmD t≤deep+1):=by
 intro t
 induction t using Tm.rec (motive_2:=fun l=>∀ (d c:Nat),c≤most→d≤deep+1→((fsS most deep l d c).1=true↔(∀ t,t∈l→OkTm t)∧c+tmNs l≤most∧d+tmDs l≤deep+1)) with
 | mk op nm N ty l ih=>
  intro d c hc hd
  rw[f_eq,tmN,tmD]
  by_cases hb:((decide (c+1≤most)&&decide (d≤deep))&&formedB op nm N ty l.length)=true
  ·rw[if_pos hb]
   simp only[Bool.and_eq_true,decide_eq_true_eq] at hb
   rw[ih (d+1) (c+1) hb.1.1 (by omega)]
   have hl:=tmNs_len l
   constructor
   ·rintro⟨h1,h2,h3⟩
    exact⟨.mk hb.2 (by omega) h1,by omega,by omega⟩
   ·rintro⟨h1,h2,h3⟩
    cases h1 with
    | mk _ _ h1=>exact⟨h1,by omega,by omega⟩
  ·rw[if_neg hb]
   constructor
   ·intro h;cases h
   ·rintro⟨h1,h2,h3⟩
    exfalso
    apply hb
    simp only[Bool.and_eq_true,decide_eq_true_eq]
    exact⟨⟨by omega,by omega⟩,h1.formed⟩
 | nil=>
  rename_i d c hc hd
  constructor
  ·intro _
   refine⟨?_,?_,?_⟩
   ·intro t h;cases h
   ·show c+0≤most;omega
   ·show d+0≤deep+1;omega
  ·intro _;rfl
 | cons t l iht ihl=>
  rename_i d c hc hd
  rw[fsS,tmNs,tmDs]
  have ht:=iht d c hc hd
  cases hr:fS most deep t d c with
  | mk b c'=>
   rw[hr] at ht
   cases b
   ·simp only[Bool.false_eq_true,false_iff] at ht
    constructor
    ·intro h;cases h
    ·rintro⟨h1,h2,h3⟩
     exact (ht ⟨h1 t (by simp),by omega,by omega⟩).elim
   ·have hs:=f_sz most deep t d c (by rw[hr])
    rw[hr] at hs
    simp only[true_iff] at ht
    have hs:c'=c+tmN t:=hs
    show (fsS most deep l d c').1=true↔_
    rw[ihl d c' (by omega) hd,hs]
    constructor
    ·rintro⟨h1,h2,h3⟩
     refine⟨fun u hu=>?_,by omega,by omega⟩
     rcases List.mem_cons.1 hu with rfl | hu
     ·exact ht.1
     ·exact h1 u hu
    ·rintro⟨h1,h2,h3⟩
     exact⟨fun u hu=>h1 u (List.mem_cons_of_mem _ hu),by omega,by omega⟩
theorem valid_iff (t:Tm):validB t=true↔OkTm t∧tmN t≤2000∧tmD t≤64:=by
 unfold validB
 rw[f_iff 2000 64 (by decide) t 1 0 (by decide) (by decide)]
 constructor
 ·rintro⟨a,b,c⟩;exact⟨a,by omega,by omega⟩
 ·rintro⟨a,b,c⟩;exact⟨a,by omega,by omega⟩
theorem val1_any {ok:Nat→Prop} {w:World} {t:Tm} {a:Option Addr} {n c:Nat} {ma:Option Addr} {mn mc:Nat} (hk:TyL ok w t.ty.kids (.slice a n c)) (hm:TmL ok w t.kids (.slice ma mn mc)) (hs:SmTm big t):
  Calls Tryz.prog 109 #[.agg #[.int .i64 t.op,.string t.name,.int .i64 t.n,.int .i64 t.ty.kind,.string t.ty.name,.slice a n c,.slice ma mn mc]] w fun e w'=>e=.returned (.bool (!validB t))∧Kept (fun _=>False) w w':=by
 have hcon:=Ld (valid_any (hk.frame (Same.alloc w (.cells #[.int .i64 t.op,.string t.name,.int .i64 t.n,.int .i64 t.ty.kind,.string t.ty.name,.slice a n c,.slice ma mn mc] 28))) (hm.frame (Same.alloc w (.cells #[.int .i64 t.op,.string t.name,.int .i64 t.n,.int .i64 t.ty.kind,.string t.ty.name,.slice a n c,.slice ma mn mc] 28))) hs)
 clear hk hm hs
 go_enter Tryz.func109,Tryz.ntmps109
 go_wp2_with fail
 refine hcon.out.mono ?_
 rintro e w' ⟨rfl,h⟩
 go_wp2_with fail
 go_ret
 exact⟨rfl,(kR.alloc _).trans h⟩
theorem all_drop {p:Tm→Bool} {l:List Tm} {k:Nat} (h:k<l.length):(l.drop k).all p=(p l[k]&&(l.drop (k+1)).all p):=by
 rw[drop_cons l k h,List.all_cons]
theorem idxV_any {ok:Nat→Prop} {l:List Tm} {a:Option Addr} {n cp:Nat} {w:World} (hn1:l.length≤1000000) (hs:∀ t,t∈l→SmTm big t) (hk:TmL ok w l (.slice a n cp)):
  Calls Tryz.prog 175 #[.slice a n cp,.func (.func 109) #[] #[]] w fun e w'=>∃ i:Int,e=.returned (.int .i64 i)∧decide (0≤i)=!(l.all validB)∧Kept (fun _=>False) w w':=by
 have HS:=Ld hs
 clear hs
 have hn:=hk.len
 subst hn
 cases hk with
 | nil he=>
  go_enter Tryz.func175,Tryz.ntmps175
  go_wp2_with fail
  go_loop [8] (fun i=>i=.int .i64 0) (fun i=>0)
  case atStart=>rfl
  case round=>
   subst hrel
   go_wp2_with fail
   go_ret
   exact⟨-1,rfl,by simp,Kept.refl _ _⟩
 | mk K MM hne hok hcap hcell hkk hmm=>
  rename_i g off
  have HC:=Ld hcell
  have HK:=Ld hkk
  have HMM:=Ld hmm
  clear hcell hkk hmm
  have hn2:=Ld hn1
  clear hn1
  go_enter Tryz.func175,Tryz.ntmps175
  go_wp2_with fail
  go_loopw [8] (fun i wr=>∃ k:Nat,k≤l.length∧i=.int .i64 k∧Kept (fun _=>False) w wr∧Hid (l.all validB=(l.drop k).all validB)) (fun i _=>l.length-(intOf i).toNat)
  case atStart=>exact⟨0,Nat.zero_le _,rfl,Kept.refl _ _,Ld rfl⟩
  case round=>
   obtain⟨k,hkl,rfl,hkr,heq⟩:=hrel
   have hn3:=hn2.out
   by_cases hlt:k<l.length
   ·have hs:=Same.of_kept (ok:=ok) hkr (fun k h e=>e)
    have c0:=hs.cell hok (HC.out k hlt).1
    have c1:=hs.cell hok (HC.out k hlt).2.1
    have c2:=hs.cell hok (HC.out k hlt).2.2.1
    have c3:=hs.cell hok (HC.out k hlt).2.2.2.1
    have c4:=hs.cell hok (HC.out k hlt).2.2.2.2.1
    have c5:=hs.cell hok (HC.out k hlt).2.2.2.2.2.1
    have c6:=hs.cell hok (HC.out k hlt).2.2.2.2.2.2
    have i1:(k:Int)<(l.length:Int):=by omega
    have i2:(k:Int)<1000000:=by omega
    obtain⟨ta,tn,tc,hK⟩:=(HK.out k hlt).slice
    have hkk:=(HK.out k hlt).frame hs
    rw[hK] at c5 hkk
    obtain⟨ua,un,uc,hU⟩:=(HMM.out k hlt).slice
    have hmm:=(HMM.out k hlt).frame hs
    rw[hU] at c6 hmm
    have hst:=Ld (all_drop (p:=validB) hlt)
    have hcon:=Ld (val1_any hkk hmm (HS.out _ (List.getElem_mem hlt)))
    clear hkk hmm hs
    cases hr:validB l[k]
    ·rw[hr] at hcon
     go_wp2_with (go_at_call 109;refine hcon.out.mono ?_;rintro e w' ⟨rfl,h1⟩)
     go_ret
     exact⟨k,rfl,by rw[heq.out,hst.out,hr];simp,hkr.trans h1⟩
    ·rw[hr] at hcon
     go_wp2_with (go_at_call 109;refine hcon.out.mono ?_;rintro e w' ⟨rfl,h1⟩)
     go_roundw
     case rel=>exact⟨k+1,by omega,by go_num,hkr.trans h1,Ld (by rw[heq.out,hst.out,hr];rfl)⟩
     case measure=>simp[intOf];omega
   ·have hz:Hid (l.all validB=true):=Ld (by rw[heq.out,List.drop_eq_nil_of_le (by omega)];rfl)
    go_wp2_with fail
    go_ret
    exact⟨-1,rfl,by rw[hz.out];rfl,hkr⟩
theorem contV_any {ok:Nat→Prop} {l:List Tm} {a:Option Addr} {n cp:Nat} {w:World} (hn1:l.length≤1000000) (hs:∀ t,t∈l→SmTm big t) (hk:TmL ok w l (.slice a n cp)):
  Calls Tryz.prog 108 #[.slice a n cp,.func (.func 109) #[] #[]] w fun e w'=>e=.returned (.bool (!(l.all validB)))∧Kept (fun _=>False) w w':=by
 have hcon:=Ld (idxV_any hn1 hs hk)
 clear hs hk hn1
 go_enter Tryz.func108,Tryz.ntmps108
 go_wp2_with fail
 refine hcon.out.mono ?_
 rintro e w' ⟨i,rfl,hi,h1⟩
 go_wp2_with fail
 go_ret
 exact⟨rfl,h1⟩
theorem valids_any {ok:Nat→Prop} {l:List Tm} {a:Option Addr} {n cp:Nat} {w:World} (hn1:l.length≤1000000) (hs:∀ t,t∈l→SmTm big t) (hk:TmL ok w l (.slice a n cp)):
  Calls Tryz.prog 60 #[.slice a n cp] w fun e w'=>e=.returned (.bool (l.all validB))∧Kept (fun _=>False) w w':=by
 have hcon:=Ld (contV_any hn1 hs hk)
 clear hs hk hn1
 go_enter Tryz.func60,Tryz.ntmps60
 go_wp2_with fail
 refine hcon.out.mono ?_
 rintro e w' ⟨rfl,h1⟩
 go_wp2_with fail
 go_ret
 exact⟨by simp,h1⟩
def BnL (ok:Nat→Prop) (w:World) (l:List (ByteArray×Tm)) (v:Value):Prop:=
 ∃ a n c,v=.slice a n c∧n=l.length∧n≤c∧(a=none→c=0)∧∀ i (h:i<l.length),∃ g off ta tn tc ma mn mc,a=some ⟨g,off,none⟩∧ok g∧g<w.heap.size∧w.cell? ⟨g,off+i*8,none⟩=some (.string l[i].1)∧C7 w g (off+i*8+1) l[i].2 (.slice ta tn tc) (.slice ma mn mc)∧TyL ok w l[i].2.ty.kids (.slice ta tn tc)∧TmL ok w l[i].2.kids (.slice ma mn mc)
theorem BnL.nil {ok:Nat→Prop} {w:World}:BnL ok w [] (.slice none 0 0):=⟨none,0,0,rfl,rfl,Nat.le_refl _,fun _=>rfl,fun i h=>absurd h (Nat.not_lt_zero _)⟩
theorem BnL.frame {ok:Nat→Prop} {w W:World} {l:List (ByteArray×Tm)} {v:Value} (h:BnL ok w l v) (hs:Same ok w W):BnL ok W l v:=by
 obtain⟨a,n,c,h1,h2,h3,h5,h4⟩:=h
 refine⟨a,n,c,h1,h2,h3,h5,fun i hi=>?_⟩
 obtain⟨g,off,ta,tn,tc,ma,mn,mc,e,hg,_,hc,h7,ht,hm⟩:=h4 i hi
 have hc':=hs.cell hg hc
 exact⟨g,off,ta,tn,tc,ma,mn,mc,e,hg,cell_lt hc',hc',h7.same hs hg,ht.frame hs,hm.frame hs⟩
theorem BnL.mono {ok ok':Nat→Prop} {w:World} {l:List (ByteArray×Tm)} {v:Value} (h:BnL ok w l v) (ho:∀ k,k<w.heap.size→ok k→ok' k):BnL ok' w l v:=by
 obtain⟨a,n,c,h1,h2,h3,h5,h4⟩:=h
 refine⟨a,n,c,h1,h2,h3,h5,fun i hi=>?_⟩
 obtain⟨g,off,ta,tn,tc,ma,mn,mc,e,hg,hl,hc,h7,ht,hm⟩:=h4 i hi
 exact⟨g,off,ta,tn,tc,ma,mn,mc,e,ho _ hl hg,hl,hc,h7,ht.mono ho,hm.mono ho⟩
theorem BnL.slice {ok:Nat→Prop} {w:World} {l:List (ByteArray×Tm)} {v:Value} (h:BnL ok w l v):∃ a c,v=.slice a l.length c:=by
 obtain⟨a,n,c,h1,h2,_⟩:=h
 exact⟨a,c,by rw[h1,h2]⟩
theorem BnL.at {ok:Nat→Prop} {w:World} {l:List (ByteArray×Tm)} {a:Option Addr} {n c:Nat} (h:BnL ok w l (.slice a n c)) (i:Nat) (hi:i<l.length):∃ g off ta tn tc ma mn mc,a=some ⟨g,off,none⟩∧ok g∧g<w.heap.size∧w.cell? ⟨g,off+i*8,none⟩=some (.string l[i].1)∧C7 w g (off+i*8+1) l[i].2 (.slice ta tn tc) (.slice ma mn mc)∧TyL ok w l[i].2.ty.kids (.slice ta tn tc)∧TmL ok w l[i].2.kids (.slice ma mn mc):=by
 obtain⟨a',n',c',h1,h2,h3,h5,h4⟩:=h
 cases h1
 exact h4 i hi
theorem look_drop {l:List (ByteArray×Tm)} {s:ByteArray} {k:Nat} (h:k<l.length):look (l.drop k) s=if l[k].1=s then some l[k].2 else look (l.drop (k+1)) s:=by
 rw[List.drop_eq_getElem_cons h,look]
def BofP (ok:Nat→Prop) (r:Option Tm) (w:World) (e:Ending) (w':World):Prop:=∃ tk kk,e=.returned (.tuple #[tmVal (r.getD tm0) tk kk,.bool r.isSome])∧TyL ok w' (r.getD tm0).ty.kids tk∧TmL ok w' (r.getD tm0).kids kk∧Kept (fun _=>False) w w'
theorem rbof_any {ok:Nat→Prop} {w:World} {l:List (ByteArray×Tm)} {v:Value} (s:ByteArray) (h:BnL ok w l v) (hn:l.length≤1000000):
  Calls Tryz.prog 130 #[v,.string s] w (BofP (fun q=>ok q∧q<w.heap.size) (look l s) w):=by
 obtain⟨a,c,rfl⟩:=h.slice
 have K0:Kept (fun _=>False) w (w.alloc Z7):=kR.alloc _
 have bR:Blk (w.alloc Z7) w.heap.size 28 z27:=Blk.new w 28 z27
 have HAT:=Ld (((h.mono (ok':=fun q=>ok q∧q<w.heap.size) (fun q h1 h2=>⟨h2,h1⟩)).frame (sK K0)).at)
 have HN:=Ld hn
 have HK:=Ld K0
 have BR:=Ld bR
 clear h hn K0 bR
 go_enter Tryz.func130,Tryz.ntmps130
 go_wp2_with fail
 generalize w.alloc Z7=w1 at *
 have gR:∀ i,w1.cell? ⟨w.heap.size,i,none⟩=[Value.int .i64 0,.string ⟨#[]⟩,.int .i64 0,.int .i64 0,.string ⟨#[]⟩,.slice none 0 0,.slice none 0 0][i]?:=BR.out.cell
 have fR:∀ i,w1.frozen? ⟨w.heap.size,i,none⟩=false:=BR.out.frozen
 go_loop [6] (fun i=>∃ k:Nat,k≤l.length∧i=.int .i64 k∧Hid (look l s=look (l.drop k) s)) (fun i=>l.length-(intOf i).toNat)
 case atStart=>exact⟨0,Nat.zero_le _,rfl,Ld rfl⟩
 case round=>
  obtain⟨k,hk,rfl,hq⟩:=hrel
  by_cases hlt:k<l.length
  ·have i1:(k:Int)<(l.length:Int):=by omega
   have i2:(k:Int)<1000000:=by have:=HN.out;omega
   obtain⟨g,off,ta,tn,tc,ma,mn,mc,rfl,hg,lg,c0,⟨d0,d1,d2,d3,d4,d5,d6⟩,hty,htm⟩:=HAT.out k hlt
   have HD:=Ld (look_drop (s:=s) hlt)
   have HTY:=Ld hty
   have HTM:=Ld htm
   clear hty htm
   cases hs:(l[k].1.toList==s.toList)
   ·have hne:Hid (l[k].1≠s):=Ld (by intro e;rw[e] at hs;simp at hs)
    go_wp2_with fail
    go_round
    case rel=>exact⟨k+1,by omega,by go_num,Ld (by rw[hq.out,HD.out,if_neg hne.out])⟩
    case measure=>simp[intOf];omega
   ·have hye:Hid (look l s=some l[k].2):=Ld (by
     have e:l[k].1=s:=by rw[nm_eq] at hs;exact of_decide_eq_true hs
     rw[hq.out,HD.out,if_pos e])
    go_wp2_with fail
    exact bodyPost_ret (results_ct Tryz.results130 rfl (load_tm (t:=l[k].2) (r7 BR.out rfl))) rfl ⟨_,_,by rw[hye.out];rfl,by rw[hye.out];exact HTY.out.frame (set7 (fun q hq=>by omega)),by rw[hye.out];exact HTM.out.frame (set7 (fun q hq=>by omega)),k7w HK.out (Or.inr (Nat.le_refl _))⟩
  ·have hkk:k=l.length:=by omega
   subst hkk
   have HE:Hid (look l s=none):=Ld (by rw[hq.out,List.drop_length];rfl)
   go_wp2_with fail
   exact bodyPost_ret (results_ct Tryz.results130 rfl (load_tm (t:=tm0) (r7 BR.out rfl))) rfl ⟨_,_,by rw[HE.out];rfl,by rw[HE.out];exact .nil (Or.inl rfl),by rw[HE.out];exact .nil (Or.inl rfl),k7w HK.out (Or.inr (Nat.le_refl _))⟩
def okb (base:Nat) (v:Value) (q:Nat):Prop:=base≤q∧v.ownBlock≠some q
structure RowT (w:World) (base:Nat) (wr:World) (E:List E3) (v:Value):Prop where
 kp:Kept (fun _=>False) w wr
 own:wr.ownsRow base 28 7 v E.length (flat E)
 el:EL (okb base v) wr E
theorem RowT.tml {w wr:World} {base:Nat} {E:List E3} {v:Value} (h:RowT w base wr E v):TmL (fun q=>base≤q) wr (E.map (·.1)) v:=
 tml_of_row' h.own (h.el.mono (fun _ _ h=>h.1)) (fun g hg=>(h.own.lt g hg).1)
theorem RowT.kept {w wr w':World} {base:Nat} {E:List E3} {v:Value} (h:RowT w base wr E v) (k:Kept (fun _=>False) wr w'):RowT w base w' E v:=
 ⟨h.kp.trans k,own_keptT h.own k (fun _ _ h=>h),h.el.frame (sK k)⟩
theorem RowT.nil {w wr:World} {base:Nat} (k:Kept (fun _=>False) w wr):RowT w base wr [] (.slice none 0 0):=⟨k,World.ownsRow_nil _ _ _ _,fun e he=>by cases he⟩
theorem RowT.app {w wr w6 W8:World} {base:Nat} {E F:List E3} {v:Value} {gg n cap H:Nat} (hb:w.heap.size≤base) (h:RowT w base wr E v) (k6:Kept (fun _=>False) wr w6) (hbl:base≤wr.heap.size)
  (hF:EL (fun q=>wr.heap.size≤q) w6 F)
  (own8:W8.ownsRow base 28 7 (.slice (some ⟨gg,0,none⟩) n cap) n (flat E++flat F)) (hn:n=E.length+F.length) (hgrow:w6.grownBy W8 v.ownBlock) (hat:v.ownBlock=some gg∨gg=H) (hH:H=w6.heap.size):
  RowT w base W8 (E++F) (.slice (some ⟨gg,0,none⟩) n cap):=by
 have kG:=kept_grown hgrow
 have z6:=k6.size
 have zk:=h.kp.size
 have hvb:∀ x,v.ownBlock=some x→base≤x∧x<wr.heap.size:=fun x e=>h.own.lt x e
 refine⟨(h.kp.trans k6).via kG (fun x hx e=>by have:=(hvb x e).1;omega),by rw[flat_app,List.length_append,← hn];exact own8,?_⟩
 have e1:EL (okb base v) w6 (E++F):=(h.el.frame (sK k6)).app (hF.mono (fun q _ hq=>⟨by omega,fun e=>by have:=(hvb q e).2;omega⟩))
 have e2:=e1.mono (ok':=fun q=>okb base v q∧okb base (.slice (some ⟨gg,0,none⟩) n cap) q) (fun q hq hh=>⟨hh,hh.1,fun e=>by
  have e1:gg=q:=Option.some.inj e
  rcases hat with hat | hat
  ·exact hh.2 (by rw[hat,e1])
  ·omega⟩)
 exact (e2.frame (Same.of_kept kG (fun q hq e=>hq.1.2 e))).mono (fun q _ hq=>hq.2)
theorem RowT.step {w wr w6 W8:World} {base:Nat} {E:List E3} {v tk kk:Value} {t:Tm} {gg cap H:Nat} (hb:w.heap.size≤base) (h:RowT w base wr E v) (k6:Kept (fun _=>False) wr w6) (hbl:base≤wr.heap.size)
  (hty:TyL (fun q=>wr.heap.size≤q) w6 t.ty.kids tk) (htm:TmL (fun q=>wr.heap.size≤q) w6 t.kids kk)
  (own8:W8.ownsRow base 28 7 (.slice (some ⟨gg,0,none⟩) (E.length+1) cap) (E.length+1) (flat E++tmCells t tk kk)) (o:Obj) (hgrow:(w6.alloc o).grownBy W8 v.ownBlock) (hat:v.ownBlock=some gg∨gg=H) (hH:H=w6.heap.size+1):
  RowT w base W8 (E++[(t,tk,kk)]) (.slice (some ⟨gg,0,none⟩) (E.length+1) cap):=by
 refine RowT.app (w6:=w6.alloc o) (F:=[(t,tk,kk)]) hb h (k6.alloc _) hbl ?_ (by show W8.ownsRow base 28 7 _ _ (flat E++(tmCells t tk kk++[]));rw[List.append_nil];exact own8) rfl hgrow hat (by rw[hH];simp)
 intro e he
 rw[List.mem_singleton.1 he]
 exact⟨hty.frame (Same.alloc _ _),htm.frame (Same.alloc _ _)⟩
abbrev E4:=(ByteArray×Tm)×Value×Value
def bCells (e:E4):List Value:=.string e.1.1::tmCells e.1.2 e.2.1 e.2.2
def flatB:List E4→List Value
 | []=>[]
 | e::E=>bCells e++flatB E
def BEL (ok:Nat→Prop) (w:World) (E:List E4):Prop:=∀ e∈E,TyL ok w e.1.2.ty.kids e.2.1∧TmL ok w e.1.2.kids e.2.2
theorem flatB_app:∀ (E F:List E4),flatB (E++F)=flatB E++flatB F
 | [],F=>rfl
 | x::E,F=>by rw[List.cons_append,flatB,flatB_app E F,flatB,List.append_assoc]
theorem flatB_get:∀ (E:List E4) (i j:Nat) (h:i<E.length),j<8→(flatB E)[i*8+j]?=(bCells E[i])[j]?
 | e::E,0,j,_,hj=>by
  rw[flatB,Nat.zero_mul,Nat.zero_add,List.getElem?_append_left (by show j<8;exact hj)];rfl
 | e::E,i+1,j,h,hj=>by
  rw[flatB,List.getElem?_append_right (by show 8≤_;omega)]
  have:=flatB_get E i j (by simpa using h) hj
  rw[show (i+1)*8+j-(bCells e).length=i*8+j by show (i+1)*8+j-8=_;omega,this]
  rfl
theorem BEL.frame {ok:Nat→Prop} {w w':World} {E:List E4} (h:BEL ok w E) (hs:Same ok w w'):BEL ok w' E:=fun e he=>⟨(h e he).1.frame hs,(h e he).2.frame hs⟩
theorem BEL.snoc {ok:Nat→Prop} {w:World} {E:List E4} {e:E4} (h:BEL ok w E) (ha:TyL ok w e.1.2.ty.kids e.2.1) (hc:TmL ok w e.1.2.kids e.2.2):BEL ok w (E++[e]):=by
 intro x hx
 rcases List.mem_append.1 hx with hx | hx
 ·exact h x hx
 ·rw[List.mem_singleton.1 hx];exact⟨ha,hc⟩
theorem bnl_of_row {ok:Nat→Prop} {w:World} {base:Nat} {v:Value} {E:List E4} (hown:w.ownsRow base 53 8 v E.length (flatB E)) (hl:BEL ok w E) (hok:∀ g,v.ownBlock=some g→ok g):BnL ok w (E.map (·.1)) v:=by
 rcases hown.2 with ⟨rfl,hn⟩ | ⟨g,cap,cur,rfl,hbg,hg,hnc,hcm,hcs,htake⟩
 ·have:E=[]:=List.length_eq_zero_iff.1 hn
  subst this;exact .nil
 ·have hb:Blk w g 53 cur.toList:=by show w.heap[g]?=_;rw[hg]
  have hc:∀ i j,i<E.length→j<8→w.cell? ⟨g,0+i*8+j,none⟩=(flatB E)[i*8+j]?:=by
   intro i j hi hj
   rw[hb.cell,← htake,List.getElem?_take,if_pos (by omega),Nat.zero_add]
  refine⟨some ⟨g,0,none⟩,E.length,cap,rfl,by simp,by omega,(fun e=>by cases e),fun i hi=>?_⟩
  have hi':i<E.length:=by simpa using hi
  have e1:(E.map (·.1))[i]=E[i].1:=List.getElem_map ..
  obtain⟨ta,tn,tc,hT⟩:=(hl _ (List.getElem_mem hi')).1.slice
  obtain⟨ma,mn,mc,hM⟩:=(hl _ (List.getElem_mem hi')).2.slice
  have q:∀ j (hj:j<8),w.cell? ⟨g,0+i*8+j,none⟩=(bCells E[i])[j]?:=fun j hj=>(hc i j hi' hj).trans (flatB_get E i j hi' hj)
  rw[e1]
  refine⟨g,0,ta,tn,tc,ma,mn,mc,rfl,hok g rfl,hb.lt,q 0 (by omega),⟨?_,?_,?_,?_,?_,?_,?_⟩,by rw[← hT];exact (hl _ (List.getElem_mem hi')).1,by rw[← hM];exact (hl _ (List.getElem_mem hi')).2⟩
  ·exact q 1 (by omega)
  ·exact q 2 (by omega)
  ·exact q 3 (by omega)
  ·exact q 4 (by omega)
  ·exact q 5 (by omega)
  ·rw[← hT];exact q 6 (by omega)
  ·rw[← hM];exact q 7 (by omega)
structure RowB (ok:Nat→Prop) (w:World) (base:Nat) (wr:World) (E:List E4) (v:Value):Prop where
 kp:Kept (fun _=>False) w wr
 own:wr.ownsRow base 53 8 v E.length (flatB E)
 el:BEL ok wr E
 lo:∀ q,ok q→q<base
theorem RowB.nil {ok:Nat→Prop} {w wr:World} {base:Nat} (k:Kept (fun _=>False) w wr) (lo:∀ q,ok q→q<base):RowB ok w base wr [] (.slice none 0 0):=⟨k,World.ownsRow_nil _ _ _ _,(fun e he=>by cases he),lo⟩
theorem RowB.kept {ok:Nat→Prop} {w wr w':World} {base:Nat} {E:List E4} {v:Value} (h:RowB ok w base wr E v) (k:Kept (fun _=>False) wr w'):RowB ok w base w' E v:=
 ⟨h.kp.trans k,own_keptT h.own k (fun _ _ h=>h),h.el.frame (sK k),h.lo⟩
theorem BEL.mono {ok ok':Nat→Prop} {w:World} {E:List E4} (h:BEL ok w E) (ho:∀ k,k<w.heap.size→ok k→ok' k):BEL ok' w E:=fun e he=>⟨(h e he).1.mono ho,(h e he).2.mono ho⟩
theorem RowB.bnl {ok:Nat→Prop} {w wr:World} {base:Nat} {E:List E4} {v:Value} (h:RowB ok w base wr E v):BnL (fun q=>ok q∨base≤q) wr (E.map (·.1)) v:=
 bnl_of_row h.own (h.el.mono (fun _ _ h=>.inl h)) (fun g hg=>.inr (World.ownsRow.lt h.own g hg).1)
theorem RowB.app1 {ok:Nat→Prop} {w wr w6 W8:World} {base:Nat} {E:List E4} {v v':Value} {e:E4} (hb:w.heap.size≤base) (h:RowB ok w base wr E v) (k6:Kept (fun _=>False) wr w6) (ht:TyL ok w6 e.1.2.ty.kids e.2.1) (hm:TmL ok w6 e.1.2.kids e.2.2)
  (own8:W8.ownsRow base 53 8 v' (E.length+1) (flatB E++bCells e)) (hgrow:w6.grownBy W8 v.ownBlock):RowB ok w base W8 (E++[e]) v':=by
 have kG:=kept_grown1 hgrow
 have hvb:∀ x,v.ownBlock=some x→base≤x:=fun x e=>(World.ownsRow.lt h.own x e).1
 refine⟨(h.kp.trans k6).via1 kG (fun x hx e=>by have:=hvb x e;omega),?_,?_,h.lo⟩
 ·rw[flatB_app,List.length_append]
  show W8.ownsRow base 53 8 v' (E.length+1) (flatB E++(bCells e++[]))
  rw[List.append_nil];exact own8
 ·exact ((h.el.frame (sK k6)).snoc ht hm).frame (Same.of_kept kG (fun q hq e=>by have:=hvb q e;have:=h.lo q hq;omega))
theorem info_bd:∃ i,Tryz.prog.info? 53=some i∧i.zero=some (.agg #[.string ⟨#[]⟩,.int .i64 0,.string ⟨#[]⟩,.int .i64 0,.int .i64 0,.string ⟨#[]⟩,.slice none 0 0,.slice none 0 0])∧i.size=8∧i.bytes=120:=by
 have:(Tryz.prog.info? 53).map (fun i=>(i.zero,i.size,i.bytes))=some (some (.agg #[.string ⟨#[]⟩,.int .i64 0,.string ⟨#[]⟩,.int .i64 0,.int .i64 0,.string ⟨#[]⟩,.slice none 0 0,.slice none 0 0]),8,120):=by kernel_rfl
 cases hh:Tryz.prog.info? 53 with
 | none=>rw[hh] at this;cases this
 | some i=>rw[hh] at this;simp only[Option.map_some,Option.some.injEq,Prod.mk.injEq] at this;exact⟨i,rfl,this.1,this.2.1,this.2.2⟩
theorem oneB {s:ByteArray} {u:Tm} {a d:Option Addr} {n c e f:Nat}:∀ x,x∈bCells ((s,u),.slice a n c,.slice d e f)→x.oneCell'=true:=by
 intro x hx
 rcases List.mem_cons.1 hx with rfl | hx
 ·rfl
 ·exact oneT x hx
theorem TmL.src {ok:Nat→Prop} {w:World} {l:List Tm} {v:Value} (h:TmL ok w l v):∃ E:List E3,E.map (·.1)=l∧EL ok w E∧Src w v l.length (flat E):=by
 obtain⟨a,n,c,rfl⟩:=h.slice
 have hn:=h.len
 cases a with
 | none=>
  have:l=[]∧n=0∧c=0:=by
   generalize hv:Value.slice none n c=v at h
   cases h with
   | nil he=>
    rcases he with he | ⟨_,_,he⟩ <;> rw[he] at hv <;> cases hv
    exact⟨rfl,rfl,rfl⟩
   | mk=>cases hv
  obtain⟨rfl,rfl,rfl⟩:=this
  exact⟨[],rfl,(fun e he=>by cases he),.inl ⟨rfl,rfl,rfl⟩⟩
 | some ad=>
  obtain⟨E,h1,h2,h3,h4⟩:=h.row
  exact⟨E,h1,h2,.inr ⟨ad,c,by rw[hn],h4⟩⟩
theorem flat_size (E:List E3):(flat E).length=E.length*7:=flat_len E
theorem RowT.app2 {w wr W8:World} {base:Nat} {E F:List E3} {v v':Value} (hb:w.heap.size≤base) (h:RowT w base wr E v) (hF:EL (okb base v) wr F)
  (own8:W8.ownsRow base 28 7 v' (E.length+F.length) (flat E++flat F)) (hgrow:wr.grownBy W8 v.ownBlock) (hat:v'.ownBlock=v.ownBlock∨v'.ownBlock=some wr.heap.size):
  RowT w base W8 (E++F) v':=by
 have kG:=kept_grown hgrow
 have zk:=h.kp.size
 have hvb:∀ x,v.ownBlock=some x→base≤x∧x<wr.heap.size:=fun x e=>h.own.lt x e
 refine⟨h.kp.via kG (fun x hx e=>by have:=(hvb x e).1;omega),by rw[flat_app,List.length_append];exact own8,?_⟩
 have e2:=(h.el.app hF).mono (ok':=fun q=>okb base v q∧okb base v' q) (fun q hq hh=>⟨hh,hh.1,fun e=>by
  rcases hat with hat | hat
  ·exact hh.2 (by rw[← hat,e])
  ·rw[hat] at e
   have:=Option.some.inj e
   omega⟩)
 exact (e2.frame (Same.of_kept kG (fun q hq e=>hq.1.2 e))).mono (fun q _ hq=>hq.2)
def stripD (l:List UInt8):List UInt8:=(l.reverse.dropWhile fun c=>digitB c.toNat).reverse
theorem stripD_snoc (l:List UInt8) (c:UInt8):stripD (l++[c])=if digitB c.toNat then stripD l else l++[c]:=by
 unfold stripD
 rw[List.reverse_append,List.reverse_cons,List.reverse_nil,List.nil_append,List.singleton_append,List.dropWhile_cons]
 split
 ·rfl
 ·rw[List.reverse_cons,List.reverse_reverse]
theorem stripD_pre:∀ (l:List UInt8),∃ r,l=stripD l++r:=by
 intro l
 refine⟨(l.reverse.takeWhile fun c=>digitB c.toNat).reverse,?_⟩
 unfold stripD
 rw[← List.reverse_append,List.takeWhile_append_dropWhile,List.reverse_reverse]
theorem strip_dig:∀ (l:List UInt8),stripD l=[]→∀ c∈l,digitB c.toNat=true:=by
 intro l h c hc
 unfold stripD at h
 rw[List.reverse_eq_nil_iff] at h
 have:∀ (m:List UInt8),m.dropWhile (fun c=>digitB c.toNat)=[]→∀ c∈m,digitB c.toNat=true:=by
  intro m
  induction m with
  | nil=>intro _ c hc;cases hc
  | cons a m ih=>
   intro hh c hc
   rw[List.dropWhile_cons] at hh
   split at hh
   ·rename_i ha
    rcases List.mem_cons.1 hc with rfl | hc
    ·exact ha
    ·exact ih hh c hc
   ·cases hh
 exact this _ h c (List.mem_reverse.2 hc)
theorem letter_not_digit {c:Int} (h:letterB c=true):digitB c=false:=by
 unfold letterB at h;unfold digitB
 simp only[Bool.or_eq_true,Bool.and_eq_true,decide_eq_true_eq] at h
 rw[Bool.and_eq_false_iff]
 simp only[decide_eq_false_iff_not]
 omega
theorem strip_head {l:List UInt8} (hne:l≠[]) (hh:letterB (l.headD 0).toNat=true):stripD l≠[]∧(stripD l).headD 0=l.headD 0:=by
 have h1:stripD l≠[]:=by
  intro e
  have:=strip_dig l e (l.headD 0) (by cases l with | nil=>exact absurd rfl hne | cons a l=>simp)
  rw[letter_not_digit hh] at this;cases this
 refine⟨h1,?_⟩
 obtain⟨r,hr⟩:=stripD_pre l
 cases hs:stripD l with
 | nil=>exact absurd hs h1
 | cons a s=>rw[hs] at hr;rw[hr];rfl
def candL (b:List UInt8) (k:Nat):List UInt8:=b.take (16-(Lib.decDigits k).length)++Lib.decDigits k
def frGo (b:List UInt8) (used:List ByteArray):Nat→Nat→ByteArray
 | 0,k=>str (candL b k)
 | f+1,k=>if mb (str (candL b k)) used then frGo b used f (k+1) else str (candL b k)
def xS:ByteArray:=⟨#[120]⟩
def baseL (name:ByteArray):List UInt8:=stripD (trimQ name).data.toList
def frFrom (nm:ByteArray) (used:List ByteArray):ByteArray:=if mb nm used then frGo (baseL nm) used 1000000 1 else nm
def freshS (name:ByteArray) (used:List ByteArray):ByteArray:=frFrom (if namedB name then name else xS) used
theorem frGo_at (b:List UInt8) (used:List ByteArray):∀ (f k:Nat),(∃ j,k≤j∧j≤k+f∧mb (str (candL b j)) used=false)→∃ j,frGo b used f k=str (candL b j)∧mb (str (candL b j)) used=false∧k≤j∧j≤k+f∧∀ i,k≤i→i<j→mb (str (candL b i)) used=true
 | 0,k,⟨j,h1,h2,h3⟩=>by
  have:j=k:=by omega
  subst this
  exact⟨j,rfl,h3,by omega,by omega,fun i h4 h5=>by omega⟩
 | f+1,k,⟨j,h1,h2,h3⟩=>by
  rw[frGo]
  cases hm:mb (str (candL b k)) used
  ·simp only[Bool.false_eq_true,if_false]
   exact⟨k,rfl,hm,by omega,by omega,fun i h4 h5=>by omega⟩
  ·simp only[if_true]
   have hjk:j≠k:=by rintro rfl;rw[hm] at h3;cases h3
   obtain⟨i,e,h4,h5,h6,h7⟩:=frGo_at b used f (k+1) ⟨j,by omega,by omega,h3⟩
   refine⟨i,e,h4,by omega,by omega,fun q h8 h9=>?_⟩
   by_cases hq:q=k
   ·subst hq;exact hm
   ·exact h7 q (by omega) h9
theorem holes {α:Type} [DecidableEq α]:∀ (n:Nat) (f:Nat→α) (L:List α),(∀ i j,i<n→j<n→f i=f j→i=j)→(∀ i,i<n→f i∈L)→n≤L.length
 | 0,_,_,_,_=>Nat.zero_le _
 | n+1,f,L,hinj,hL=>by
  have h1:=hL n (by omega)
  have:=holes n f (L.erase (f n)) (fun i j hi hj e=>hinj i j (by omega) (by omega) e) (fun i hi=>(List.mem_erase_of_ne (fun e=>by have:=hinj i n (by omega) (by omega) e;omega)).2 (hL i (by omega)))
  rw[List.length_erase_of_mem h1] at this
  have:0<L.length:=List.length_pos_of_mem h1
  omega
theorem dec_val:∀ (n:Nat),(Lib.decDigits n).foldl (fun v c=>v*10+(c.toNat-48)) 0=n:=by
 intro n
 induction n using Nat.strongRecOn with
 | _ n ih=>
  rw[Lib.decDigits]
  split
  ·rename_i h
   rw[List.foldl_cons,List.foldl_nil,UInt8.toNat_ofNat',Nat.mod_eq_of_lt (by omega)];omega
  ·rename_i h
   rw[List.foldl_append,ih (n / 10) (by omega),List.foldl_cons,List.foldl_nil,UInt8.toNat_ofNat',Nat.mod_eq_of_lt (by omega)]
   omega
theorem dec_inj {a b:Nat} (h:Lib.decDigits a=Lib.decDigits b):a=b:=by rw[← dec_val a,← dec_val b,h]
theorem dec_dig2:∀ (n:Nat),∀ c,c∈Lib.decDigits n→digitB c.toNat=true:=by
 intro n
 induction n using Nat.strongRecOn with
 | _ n ih=>
  intro c hc
  rw[Lib.decDigits] at hc
  split at hc
  ·rename_i h
   rw[List.mem_singleton.1 hc,UInt8.toNat_ofNat',Nat.mod_eq_of_lt (by omega)]
   unfold digitB;rw[Bool.and_eq_true,decide_eq_true_eq,decide_eq_true_eq];omega
  ·rename_i h
   rcases List.mem_append.1 hc with hc | hc
   ·exact ih _ (by omega) c hc
   ·rw[List.mem_singleton.1 hc,UInt8.toNat_ofNat',Nat.mod_eq_of_lt (by omega)]
    unfold digitB;rw[Bool.and_eq_true,decide_eq_true_eq,decide_eq_true_eq];omega
theorem dec_ne2 (n:Nat):Lib.decDigits n≠[]:=by
 rw[Lib.decDigits];split <;> simp
theorem dec_len2:∀ (k n:Nat),n<10 ^ (k+1)→(Lib.decDigits n).length≤k+1:=by
 intro k
 induction k with
 | zero=>intro n h;rw[Lib.decDigits,dif_pos (by omega)];simp
 | succ k ih=>
  intro n h
  rw[Lib.decDigits]
  split
  ·simp
  ·rw[List.length_append,List.length_singleton]
   have:=ih (n / 10) (by rw[Nat.pow_succ] at h;omega)
   omega
theorem dec_six {n:Nat} (h1:100000≤n) (h2:n<1000000):(Lib.decDigits n).length=6:=by
 have:=dec_len2 5 n (by omega)
 have h:∀ (k n:Nat),10 ^ k≤n→k+1≤(Lib.decDigits n).length:=by
  intro k
  induction k with
  | zero=>intro n _;have:=dec_ne2 n;exact List.length_pos_iff.2 this
  | succ k ih=>
   intro n hn
   rw[Lib.decDigits]
   have hp:1≤10 ^ k:=Nat.one_le_pow _ _ (by decide)
   rw[Nat.pow_succ] at hn
   rw[dif_neg (by omega),List.length_append,List.length_singleton]
   have:=ih (n / 10) (by omega)
   omega
 have:=h 5 n (by omega)
 omega
theorem str_inj {a b:List UInt8} (h:str a=str b):a=b:=by
 have:(str a).data.toList=(str b).data.toList:=by rw[h]
 simpa [str] using this
theorem cand_free (b:List UInt8) (used:List ByteArray) (h:used.length≤800000):∃ j,1≤j∧j≤1+1000000∧mb (str (candL b j)) used=false:=by
 by_cases hh:∃ j,1≤j∧j≤1+1000000∧mb (str (candL b j)) used=false
 ·exact hh
 ·exfalso
  have:=holes 900000 (fun i=>str (candL b (100000+i))) used (fun i j hi hj e=>?_) (fun i hi=>?_)
  ·omega
  ·have e:=str_inj e
   unfold candL at e
   rw[dec_six (by omega) (by omega),dec_six (by omega) (by omega)] at e
   have:=dec_inj (List.append_cancel_left e)
   omega
  ·rw[← mb_iff]
   cases hm:mb (str (candL b (100000+i))) used
   ·exact absurd ⟨_,by omega,by omega,hm⟩ hh
   ·rfl
theorem freshS_good (name:ByteArray) (used:List ByteArray) (h:used.length≤800000):mb (freshS name used) used=false:=by
 unfold freshS
 generalize (if namedB name then name else xS)=nm
 unfold frFrom
 split
 ·obtain⟨j,e,h1,_⟩:=frGo_at (baseL nm) used 1000000 1 (cand_free _ used h)
  rw[e];exact h1
 ·rename_i h;exact Bool.eq_false_iff.2 h
theorem freshS_FS:GoodFS freshS 800000:=fun x U h=>freshS_good x U h
theorem kws_dig:∀ l∈kws,∀ c∈l,digitB c.toNat=false:=by decide
theorem ident_parts {s:ByteArray}:identB s=true↔s.data.toList≠[]∧s.data.toList.length≤16∧letterB (s.data.toList.headD 0).toNat=true∧keywordB s=false∧allW s.data.toList=true:=by
 unfold identB
 simp only[Bool.and_eq_true,decide_eq_true_eq,Bool.not_eq_true']
 have e:s.size=s.data.toList.length:=by rw[Array.length_toList];rfl
 rw[e,List.length_pos_iff]
 constructor
 ·rintro⟨⟨⟨⟨a,b⟩,c⟩,d⟩,e⟩;exact⟨a,b,c,d,e⟩
 ·rintro⟨a,b,c,d,e⟩;exact⟨⟨⟨⟨a,b⟩,c⟩,d⟩,e⟩
theorem str_list (l:List UInt8):(str l).data.toList=l:=by simp[str]
theorem keyword_iff (s:ByteArray):keywordB s=true↔s.data.toList∈kws:=by
 unfold keywordB;rw[Go.ByteArray.toList_eq];exact List.contains_iff_mem
theorem cand_ident {b:List UInt8} {k:Nat} (hb:b≠[]) (hl:letterB (b.headD 0).toNat=true) (hw:allW b=true) (hk:k<10000000):identB (str (candL b k))=true:=by
 have hd:=dec_len2 6 k (by omega)
 have hne:=dec_ne2 k
 rw[ident_parts,str_list]
 cases b with
 | nil=>exact absurd rfl hb
 | cons a b=>
  have e:candL (a::b) k=a::(b.take (15-(Lib.decDigits k).length)++Lib.decDigits k):=by
   unfold candL
   rw[show 16-(Lib.decDigits k).length=(15-(Lib.decDigits k).length)+1 by omega,List.take_succ_cons,List.cons_append]
  refine⟨by rw[e];simp,?_,by rw[e];exact hl,?_,?_⟩
  ·unfold candL
   rw[List.length_append,List.length_take];omega
  ·rw[← Bool.not_eq_true,keyword_iff,str_list]
   intro hm
   cases hq:Lib.decDigits k with
   | nil=>exact hne hq
   | cons c r=>
    have h1:=kws_dig _ hm c (by unfold candL;rw[hq];simp)
    rw[dec_dig2 k c (by rw[hq];simp)] at h1;cases h1
  ·unfold allW at hw ⊢
   rw[List.all_eq_true] at hw ⊢
   intro c hc
   unfold candL at hc
   rcases List.mem_append.1 hc with hc | hc
   ·exact hw c (List.mem_of_mem_take hc)
   ·have:=dec_dig2 k c hc
    unfold inWordB;rw[this];simp
theorem x_ident:identB xS=true:=by kernel_rfl
theorem base_ok {nm:ByteArray} (h:namedB nm=true):baseL nm≠[]∧letterB ((baseL nm).headD 0).toNat=true∧allW (baseL nm)=true:=by
 unfold namedB at h
 rw[ident_parts] at h
 obtain⟨h1,h2,h3,h4,h5⟩:=h
 obtain⟨h6,h7⟩:=strip_head h1 h3
 refine⟨h6,by unfold baseL;rw[h7];exact h3,?_⟩
 obtain⟨r,hr⟩:=stripD_pre (trimQ nm).data.toList
 unfold allW at h5 ⊢
 rw[hr,List.all_append,Bool.and_eq_true] at h5
 exact h5.1
theorem ident_end {s:ByteArray} (h:identB s=true):trimQ s=s:=by
 rw[ident_parts] at h
 unfold trimQ
 have:Lib.trimSuffix s.data.toList [39]=s.data.toList:=by
  unfold Lib.trimSuffix Lib.hasSuffix
  rw[if_neg]
  intro e
  have hm:(39:UInt8)∈s.data.toList:=by
   obtain⟨t,ht⟩:=(List.isSuffixOf_iff_suffix.1 e)
   rw[← ht];simp
  have h5:=h.2.2.2.2
  unfold allW at h5
  have:=List.all_eq_true.1 h5 _ hm
  revert this;decide
 rw[this]
theorem ident_named {s:ByteArray} (h:identB s=true):namedB s=true:=by unfold namedB;rw[ident_end h];exact h
theorem freshS_ident {name:ByteArray} {used:List ByteArray} (h:identB name=true) (hu:used.length≤800000):identB (freshS name used)=true:=by
 unfold freshS frFrom
 rw[if_pos (ident_named h)]
 split
 ·obtain⟨j,e,h1,h2,h3,_⟩:=frGo_at (baseL name) used 1000000 1 (cand_free _ used hu)
  rw[e]
  have hb:=base_ok (ident_named h)
  exact cand_ident hb.1 hb.2.1 hb.2.2 (by omega)
 ·exact h
theorem freshS_named {name:ByteArray} {used:List ByteArray} (hu:used.length≤800000):namedB (freshS name used)=true:=by
 unfold freshS
 have hn:namedB (if namedB name then name else xS)=true:=by
  split
  ·assumption
  ·exact ident_named x_ident
 generalize (if namedB name then name else xS)=nm at *
 unfold frFrom
 split
 ·obtain⟨j,e,h1,h2,h3,_⟩:=frGo_at (baseL nm) used 1000000 1 (cand_free _ used hu)
  rw[e]
  have hb:=base_ok hn
  exact ident_named (cand_ident hb.1 hb.2.1 hb.2.2 (by omega))
 ·exact hn
theorem OkTm.kid {t u:Tm} (h:OkTm t) (hu:u∈t.kids):OkTm u:=by cases h with | mk _ _ hl=>exact hl u hu
theorem zero_ty {t:Ty} (h:zeroTyB t=true):t=ty0:=by
 obtain⟨k,nm,l⟩:=t
 unfold zeroTyB at h
 simp only[Bool.and_eq_true,Ty.kind,Ty.name,Ty.kids,beq_iff_eq] at h
 obtain⟨⟨h1,h2⟩,h3⟩:=h
 rw[Go.ByteArray.toList_eq] at h2
 have e:nm=⟨#[]⟩:=ByteArray.ext (Array.toList_inj.1 h2)
 rw[h1,e,List.isEmpty_iff.1 h3];rfl
theorem OkTm.nw:∀ {t:Tm},OkTm t→NW t:=by
 intro t h
 induction h with
 | mk h hn hl ih=>
  refine .mk (fun e=>?_) ih
  subst e
  obtain⟨h1,h2,h3,h4⟩:=formed_parts h
  refine⟨?_,?_,?_⟩
  ·unfold nOk at h3;simpa using h3
  ·unfold tyOk at h4
   rw[if_neg (by decide)] at h4
   exact zero_ty h4
  ·unfold kidOk at h1
   have e:kidsN 20=(0,true):=rfl
   rw[e] at h1
   simp at h1
   exact h1
theorem binder_ne {op:Int} (h:binderB op=true):op≠20∧op≠19∧op≠29∧op≠28:=by
 unfold binderB at h
 simp only[Bool.or_eq_true,beq_iff_eq] at h
 omega
theorem binder_kids {op:Int} (h:binderB op=true) {n:Nat} (hk:kidOk op n=true):n=2:=by
 unfold binderB at h
 simp only[Bool.or_eq_true,beq_iff_eq] at h
 have e:kidsN op=(2,true):=by
  rcases h with ((h | h) | h) | h <;> subst h <;> rfl
 unfold kidOk at hk
 rw[e] at hk
 simp at hk;omega
theorem formed_name2 {op:Int} {nm z:ByteArray} {N:Int} {ty:Ty} {n:Nat} (h:formedB op nm N ty n=true) (hb:binderB op=true) (hz:identB z=true):formedB op z N ty n=true:=by
 obtain⟨h1,h2,h3,h4⟩:=formed_parts h
 unfold formedB
 rw[h1,h3,h4]
 unfold nmOk
 rw[if_neg (binder_ne hb).1,if_pos hb,hz];rfl
theorem formed_ident {op:Int} {nm:ByteArray} {N:Int} {ty:Ty} {n:Nat} (h:formedB op nm N ty n=true) (hb:binderB op=true):identB nm=true:=by
 obtain⟨h1,h2,h3,h4⟩:=formed_parts h
 unfold nmOk at h2
 rw[if_neg (binder_ne hb).1,if_pos hb] at h2;exact h2
theorem nameT_ok {s:ByteArray} (h:namedB s=true):OkTm (nameT s):=by
 unfold nameT
 refine .mk ?_ (by simp) (fun t ht=>by cases ht)
 unfold formedB nmOk
 rw[if_pos rfl,h];kernel_rfl
theorem subK_len (FS:ByteArray→List ByteArray→ByteArray) (bi:Bool) (l inn:List (ByteArray×Tm)):∀ (ks:List Tm) (i:Nat),(subK FS bi l inn i ks).length=ks.length
 | [],i=>rfl
 | t::r,i=>by rw[subK,List.length_cons,subK_len FS bi l inn r,List.length_cons]
def OkB (l:List (ByteArray×Tm)):Prop:=∀ b∈l,OkTm b.2
theorem look_mem {l:List (ByteArray×Tm)} {s:ByteArray} {u:Tm} (h:look l s=some u):∃ b∈l,b.2=u:=by
 induction l with
 | nil=>cases h
 | cons b l ih=>
  rw[look] at h
  by_cases hb:b.1=s
  ·rw[if_pos hb] at h;cases h;exact⟨b,by simp,rfl⟩
  ·rw[if_neg hb] at h;obtain⟨c,hc,e⟩:=ih h;exact⟨c,List.mem_cons_of_mem _ hc,e⟩
theorem remG_mem (x:ByteArray) (F:List ByteArray):∀ (l out:List (ByteArray×Tm)) (b:ByteArray×Tm),b∈remG x F out l→b∈out∨b∈l
 | [],out,b,h=>Or.inl h
 | c::l,out,b,h=>by
  rw[remG] at h
  split at h
  ·rcases remG_mem x F l out b h with h | h
   ·exact Or.inl h
   ·exact Or.inr (List.mem_cons_of_mem _ h)
  ·rcases remG_mem x F l _ b h with h | h
   ·rcases List.mem_append.1 h with h | h
    ·exact Or.inl h
    ·rw[List.mem_singleton.1 h];exact Or.inr (by simp)
   ·exact Or.inr (List.mem_cons_of_mem _ h)
theorem remL_mem {x:ByteArray} {F:List ByteArray} {l:List (ByteArray×Tm)} {b:ByteArray×Tm} (h:b∈remL l x F):b∈l:=by
 rcases remG_mem x F l [] b h with h | h
 ·cases h
 ·exact h
theorem newN_ident {x:ByteArray} {body:Tm} {l:List (ByteArray×Tm)} (hx:identB x=true) (hM:tmN body+(frB l).length≤800000):identB (newN freshS x body l)=true:=by
 unfold newN
 split
 ·refine freshS_ident hx ?_
  rw[List.length_append]
  have:=frs_len body
  have:=remL_len x (fr body) l
  omega
 ·exact hx
theorem inner_okB {x:ByteArray} {body:Tm} {l:List (ByteArray×Tm)} (hx:identB x=true) (hM:tmN body+(frB l).length≤800000) (hl:OkB l):OkB (inner freshS x body l):=by
 have hr:OkB (remL l x (fr body)):=fun b hb=>hl b (remL_mem hb)
 unfold inner
 split
 ·intro b hb
  rcases List.mem_append.1 hb with hb | hb
  ·exact hr b hb
  ·rw[List.mem_singleton.1 hb];exact nameT_ok (ident_named (newN_ident hx hM))
 ·exact hr
theorem sub_ok:∀ {t:Tm},OkTm t→∀ (l:List (ByteArray×Tm)),OkB l→tmN t+(frB l).length≤800000→OkTm (subT freshS t l):=by
 intro t
 induction t using Tm.rec (motive_2:=fun ks=>∀ (bi:Bool) (l inn:List (ByteArray×Tm)) (i:Nat),(∀ t∈ks,OkTm t)→OkB l→tmNs ks+(frB l).length≤800000→(∀ (j:Nat) (t:Tm),ks[j]?=some t→(bi&&(i+j)==1)=true→OkB inn∧tmN t+(frB inn).length≤800000)→∀ u∈subK freshS bi l inn i ks,OkTm u) with
 | mk op nm N ty ks ih=>
  intro h l hl hM
  have h0:=h
  cases h with
  | mk hf hn hk=>
   rw[tmN] at hM
   rw[subT]
   by_cases h20:op=20
   ·rw[if_pos h20]
    cases hq:look l nm with
    | none=>exact h0
    | some u=>obtain⟨b,hb,e⟩:=look_mem hq;rw[← e];exact hl b hb
   ·rw[if_neg h20]
    cases hb:binderB op
    ·simp only[Bool.false_eq_true,if_false]
     refine .mk (by rw[subK_len];exact hf) (by rw[subK_len];exact hn) (ih false l l 0 hk hl (by omega) (fun j t _ e=>by cases e))
    ·simp only[if_true]
     have hid:=formed_ident hf hb
     have e2:=binder_kids hb (formed_parts hf).1
     match ks,e2 with
     | [d,body],_=>
      have eg:([d,body]:List Tm).getD 1 (nameT nm)=body:=rfl
      rw[eg]
      simp only[tmNs] at hM
      refine .mk (by rw[subK_len];exact formed_name2 hf hb (newN_ident hid (by omega))) (by rw[subK_len];exact hn) (ih true l _ 0 hk hl (by simp only[tmNs];omega) (fun j t hj e=>?_))
      have hj1:j=1:=by simpa using e
      subst hj1
      have hj2:body=t:=by simpa using hj
      subst hj2
      exact⟨inner_okB hid (by omega) hl,by have:=inner_len freshS nm body l;omega⟩
 | nil=>rename_i u hu;cases hu
 | cons t ks iht ihl=>
  rename_i bi l inn i hk hl hM hin u hu
  rw[tmNs] at hM
  rw[subK] at hu
  rcases List.mem_cons.1 hu with rfl | hu
  ·cases hb:(bi&&i==1)
   ·simp only[Bool.false_eq_true,if_false];exact iht (hk t (by simp)) l hl (by omega)
   ·simp only[if_true]
    obtain⟨h1,h2⟩:=hin 0 t rfl (by rw[Nat.add_zero];exact hb)
    exact iht (hk t (by simp)) inn h1 h2
  ·exact ihl bi l inn (i+1) (fun t ht=>hk t (List.mem_cons_of_mem _ ht)) hl (by omega) (fun j t hj e=>hin (j+1) t (by simpa using hj) (by rw[show i+(j+1)=i+1+j by omega];exact e)) u hu
theorem sub_nil (FS:ByteArray→List ByteArray→ByteArray):∀ (t:Tm),subT FS t []=t:=by
 have hr:∀ x F,remL [] x F=[]:=fun x F=>rfl
 have hi:∀ x body,inner FS x body []=[]:=fun x body=>by
  unfold inner;rw[hr];rfl
 have hn:∀ x body,newN FS x body []=x:=fun x body=>by
  unfold newN;rw[hr];rfl
 intro t
 induction t using Tm.rec (motive_2:=fun ks=>∀ (bi:Bool) (i:Nat),subK FS bi [] [] i ks=ks) with
 | mk op nm N ty ks ih=>
  rw[subT]
  split
  ·rfl
  ·split
   ·rw[hi,hn,ih]
   ·rw[ih]
 | nil=>rfl
 | cons t ks iht ihl=>
  rename_i bi i
  rw[subK,ihl]
  have e:(if (bi&&i==1)=true then ([]:List (ByteArray×Tm)) else [])=[]:=by split <;> rfl
  rw[e,iht]
theorem valid_of {t:Tm} (h:OkTm t):validB t=(decide (tmN t≤2000)&&decide (tmD t≤64)):=by
 rw[Bool.eq_iff_iff,valid_iff,Bool.and_eq_true,decide_eq_true_eq,decide_eq_true_eq]
 exact⟨fun ⟨_,a,b⟩=>⟨a,b⟩,fun ⟨a,b⟩=>⟨h,a,b⟩⟩
theorem valid_db {t u:Tm} (ht:OkTm t) (hu:OkTm u) (h:dbT t=dbT u):validB t=validB u:=by
 rw[valid_of ht,valid_of hu,db_size ht.nw hu.nw h,db_depth ht.nw hu.nw h]
theorem mem_fr_db:∀ (t:Tm) (ρ:ByteArray→Db) (x:ByteArray),NW t→(x∈frD (ev ρ t)↔∃ s,s∈fr t∧x∈frD (ρ s)):=by
 intro t
 induction t using Tm.rec (motive_2:=fun l=>∀ (bi:Bool) (nm:ByteArray) (ρ:ByteArray→Db) (i:Nat) (x:ByteArray),(∀ t,t∈l→NW t)→(x∈frDs (evs bi nm ρ i l)↔∃ s,s∈frs bi nm i l∧x∈frD (ρ s))) with
 | mk op nm N ty l ih=>
  intro ρ x h
  cases h with
  | mk h hl=>
   rw[ev,fr]
   split
   ·simp
   ·rw[frD,ih _ _ _ _ _ hl]
 | nil=>rename_i bi nm ρ i x _;simp[evs,frs,frDs]
 | cons t l iht ihl=>
  rename_i bi nm ρ i x h
  rw[evs,frs,frDs,List.mem_append,ihl _ _ _ _ _ (fun t ht=>h t (List.mem_cons_of_mem _ ht)),iht _ _ (h t (by simp))]
  have key:(∃ s,s∈fr t∧x∈frD ((if (bi&&i==1)=true then upE nm ρ else ρ) s))↔∃ s,s∈(if (bi&&i==1)=true then (fr t).filter (fun s=>!decide (s=nm)) else fr t)∧x∈frD (ρ s):=by
   split
   ·constructor
    ·rintro⟨s,h1,h2⟩
     unfold upE at h2
     by_cases e:s=nm
     ·rw[if_pos e] at h2;cases h2
     ·rw[if_neg e,frD_ren] at h2
      exact⟨s,List.mem_filter.2 ⟨h1,by simp[e]⟩,h2⟩
    ·rintro⟨s,h1,h2⟩
     obtain⟨h1,h3⟩:=List.mem_filter.1 h1
     have e:s≠nm:=by simpa using h3
     refine⟨s,h1,?_⟩
     unfold upE;rw[if_neg e,frD_ren];exact h2
   ·exact Iff.rfl
  rw[key]
  constructor
  ·rintro (⟨s,h1,h2⟩ | ⟨s,h1,h2⟩)
   ·exact⟨s,List.mem_append_left _ h1,h2⟩
   ·exact⟨s,List.mem_append_right _ h1,h2⟩
  ·rintro⟨s,h1,h2⟩
   rcases List.mem_append.1 h1 with h1 | h1
   ·exact Or.inl ⟨s,h1,h2⟩
   ·exact Or.inr ⟨s,h1,h2⟩
theorem fr_db {t:Tm} (h:NW t) (x:ByteArray):x∈frD (dbT t)↔x∈fr t:=by
 unfold dbT
 rw[mem_fr_db t .fv x h]
 constructor
 ·rintro⟨s,h1,h2⟩;rw[frD,List.mem_singleton] at h2;rw[h2];exact h1
 ·intro h;exact⟨x,h,by rw[frD];simp⟩
theorem frGo_ext {U V:List ByteArray} (h:∀ s,mb s U=mb s V) (b:List UInt8):∀ (f k:Nat),frGo b U f k=frGo b V f k
 | 0,k=>rfl
 | f+1,k=>by rw[frGo,frGo,h,frGo_ext h b f]
theorem freshS_ext {U V:List ByteArray} (h:∀ s,mb s U=mb s V) (n:ByteArray):freshS n U=freshS n V:=by
 unfold freshS frFrom
 rw[h,frGo_ext h]
def wordV (nm:ByteArray) (k:Nat):ByteArray:=match k with
 | 0=>nm
 | 1=>str [120]
 | 2=>str [121]
 | 3=>str [122]
 | 4=>str [110]
 | 5=>str [120,49]
 | 6=>str [97]
 | _=>str [102]
def pickV (l:List Int) (at_:Nat):Nat:=if l.length=0 then 0 else (l.getD (at_ % l.length) 0 % 8).toNat
def exL (l:List ByteArray) (s:ByteArray):List ByteArray:=l.filter fun x=>!decide (x=s)
def varZ (l:List Int) (nm:ByteArray) (body:Tm) (at_:Nat):ByteArray:=freshS (wordV nm (pickV l at_)) (exL (fr body) nm)
def varK (g:Tm→Nat→Tm×Nat):List Tm→Nat→List Tm×Nat
 | [],i=>([],i)
 | t::ks,i=>((g t i).1::(varK g ks (g t i).2).1,(varK g ks (g t i).2).2)
def varF (l:List Int):Nat→Tm→Nat→Tm×Nat
 | 0,t,i=>(t,i)
 | f+1,.mk op nm N ty ks,i=>
  if binderB op then
   (.mk op (varZ l nm (ks.getD 1 (nameT nm)) i) N ty (varK (varF l f) (ks.set 1 (subT freshS (ks.getD 1 (nameT nm)) [(nm,nameT (varZ l nm (ks.getD 1 (nameT nm)) i))])) (i+1)).1,
    (varK (varF l f) (ks.set 1 (subT freshS (ks.getD 1 (nameT nm)) [(nm,nameT (varZ l nm (ks.getD 1 (nameT nm)) i))])) (i+1)).2)
  else (.mk op nm N ty (varK (varF l f) ks i).1,(varK (varF l f) ks i).2)
theorem exL_mem {l:List ByteArray} {s x:ByteArray}:x∈exL l s↔x∈l∧x≠s:=by
 unfold exL;rw[List.mem_filter];simp
theorem exL_len (l:List ByteArray) (s:ByteArray):(exL l s).length≤l.length:=List.length_filter_le _ _
theorem word_ident {nm:ByteArray} (h:identB nm=true) (k:Nat):identB (wordV nm k)=true:=by
 unfold wordV
 split <;> first | exact h | kernel_rfl
theorem varZ_ident {l:List Int} {nm:ByteArray} {body:Tm} {i:Nat} (h:identB nm=true) (hM:tmN body≤700000):identB (varZ l nm body i)=true:=by
 unfold varZ
 refine freshS_ident (word_ident h _) ?_
 have:=exL_len (fr body) nm
 have:=frs_len body
 omega
theorem varZ_not {l:List Int} {nm:ByteArray} {body:Tm} {i:Nat} (hM:tmN body≤700000) {s:ByteArray} (hs:s∈fr body) (hn:s≠nm):s≠varZ l nm body i:=by
 intro e
 have:=freshS_good (wordV nm (pickV l i)) (exL (fr body) nm) (by
  have:=exL_len (fr body) nm
  have:=frs_len body
  omega)
 have h2:=(mb_iff s _).2 (exL_mem.2 ⟨hs,hn⟩)
 unfold varZ at e
 rw[← e,h2] at this;cases this
theorem frB_one (nm z:ByteArray):frB [(nm,nameT z)]=[z]:=by rw[frB,frB,fr_nameT];rfl
theorem rename_body {nm z:ByteArray} {body:Tm} (hM:tmN body≤700000) (hz:∀ s,s∈fr body→s≠nm→s≠z) (ρ:ByteArray→Db):ev (upE z ρ) (subT freshS body [(nm,nameT z)])=ev (upE nm ρ) body:=by
 rw[ev_sub freshS_FS body _ _ (by rw[frB_one,List.length_singleton];omega)]
 apply ev_cong
 intro s hs
 unfold evB
 rw[look]
 by_cases e:nm=s
 ·rw[if_pos e]
  simp only
  rw[nameT_ev]
  unfold upE;rw[if_pos rfl,if_pos e.symm]
 ·rw[if_neg e]
  simp only[look]
  unfold upE
  rw[if_neg (hz s hs (Ne.symm e)),if_neg (Ne.symm e)]
theorem varK_len (g:Tm→Nat→Tm×Nat):∀ (ks:List Tm) (i:Nat),(varK g ks i).1.length=ks.length
 | [],i=>rfl
 | t::ks,i=>by rw[varK,List.length_cons,varK_len g ks,List.length_cons]
theorem varK_mem {g:Tm→Nat→Tm×Nat} {P:Tm→Prop}:∀ {ks:List Tm} {i:Nat},(∀ t∈ks,∀ j,P (g t j).1)→∀ u∈(varK g ks i).1,P u
 | [],i,h,u,hu=>by cases hu
 | t::ks,i,h,u,hu=>by
  rw[varK] at hu
  rcases List.mem_cons.1 hu with rfl | hu
  ·exact h t (by simp) i
  ·exact varK_mem (fun t ht=>h t (List.mem_cons_of_mem _ ht)) u hu
theorem varK_ev {g:Tm→Nat→Tm×Nat} (bi:Bool) (nm:ByteArray) (ρ:ByteArray→Db):∀ {ks:List Tm} {i j:Nat},(∀ t∈ks,∀ j ρ,ev ρ (g t j).1=ev ρ t)→evs bi nm ρ j (varK g ks i).1=evs bi nm ρ j ks
 | [],i,j,h=>rfl
 | t::ks,i,j,h=>by
  rw[varK,evs,evs,varK_ev bi nm ρ (fun t ht=>h t (List.mem_cons_of_mem _ ht)),h t (by simp)]
theorem tmD_kid {ks:List Tm} {t:Tm} (h:t∈ks):tmD t≤tmDs ks∧tmN t≤tmNs ks:=by
 induction ks with
 | nil=>cases h
 | cons a ks ih=>
  rw[tmDs,tmNs]
  rcases List.mem_cons.1 h with rfl | h
  ·omega
  ·have:=ih h;omega
theorem sub1_ok {nm z:ByteArray} {body:Tm} (hb:OkTm body) (hz:namedB z=true) (hM:tmN body≤700000):OkTm (subT freshS body [(nm,nameT z)]):=
 sub_ok hb _ (fun b hb=>by rw[List.mem_singleton.1 hb];exact nameT_ok hz) (by rw[frB_one,List.length_singleton];omega)
theorem szD_up {ρ:ByteArray→Db} (h:∀ s,szD (ρ s)=1) (nm s:ByteArray):szD (upE nm ρ s)=1:=by
 unfold upE;split
 ·rfl
 ·rw[szD_ren];exact h s
theorem dpD_up {ρ:ByteArray→Db} (h:∀ s,dpD (ρ s)=1) (nm s:ByteArray):dpD (upE nm ρ s)=1:=by
 unfold upE;split
 ·rfl
 ·rw[dpD_ren];exact h s
theorem sub1_size {nm z:ByteArray} {body:Tm} (hb:OkTm body) (hz:namedB z=true) (hzf:∀ s,s∈fr body→s≠nm→s≠z) (hM:tmN body≤700000):tmN (subT freshS body [(nm,nameT z)])=tmN body∧tmD (subT freshS body [(nm,nameT z)])=tmD body:=by
 have e:=rename_body hM hzf .fv
 have h1:=sub1_ok (nm:=nm) hb hz hM
 constructor
 ·rw[← ev_size _ (upE z .fv) h1.nw (szD_up (fun _=>rfl) z),e,ev_size _ (upE nm .fv) hb.nw (szD_up (fun _=>rfl) nm)]
 ·rw[← ev_depth _ (upE z .fv) h1.nw (dpD_up (fun _=>rfl) z),e,ev_depth _ (upE nm .fv) hb.nw (dpD_up (fun _=>rfl) nm)]
theorem vary_main (l:List Int):∀ (f:Nat) (t:Tm) (i:Nat),OkTm t→tmN t≤700000→tmD t≤f→OkTm (varF l f t i).1∧∀ ρ,ev ρ (varF l f t i).1=ev ρ t:=by
 intro f
 induction f with
 | zero=>intro t i h _ _;exact⟨h,fun _=>rfl⟩
 | succ f ih=>
  intro t i h hM hD
  cases h with
  | mk hf hn hk=>
   rename_i op nm N ty ks
   rw[tmN] at hM
   rw[tmD] at hD
   rw[varF]
   cases hb:binderB op
   ·simp only[Bool.false_eq_true,if_false]
    have hkk:∀ t∈ks,∀ j,OkTm (varF l f t j).1∧∀ ρ,ev ρ (varF l f t j).1=ev ρ t:=fun t ht j=>ih t j (hk t ht) (by have:=(tmD_kid ht).2;omega) (by have:=(tmD_kid ht).1;omega)
    refine⟨.mk (by rw[varK_len];exact hf) (by rw[varK_len];exact hn) (varK_mem (fun t ht j=>(hkk t ht j).1)),fun ρ=>?_⟩
    rw[ev,ev]
    split
    ·rfl
    ·rw[varK_ev _ _ _ (fun t ht j ρ=>(hkk t ht j).2 ρ)]
   ·simp only[if_true]
    have hid:=formed_ident hf hb
    have e2:=binder_kids hb (formed_parts hf).1
    match ks,e2 with
    | [d,body],_=>
     have eg:([d,body]:List Tm).getD 1 (nameT nm)=body:=rfl
     rw[eg]
     have hbo:=hk body (by simp)
     simp only[tmNs] at hM
     simp only[tmDs] at hD
     have hz1:=varZ_ident (l:=l) (i:=i) hid (show tmN body≤700000 by omega)
     have hz2:=fun s hs hn=>varZ_not (l:=l) (nm:=nm) (body:=body) (i:=i) (by omega) (s:=s) hs hn
     generalize varZ l nm body i=z at *
     have hsz:=sub1_size hbo (ident_named hz1) hz2 (by omega)
     have hso:=sub1_ok (nm:=nm) hbo (ident_named hz1) (by omega)
     have hre:=rename_body (nm:=nm) (z:=z) (body:=body) (by omega) hz2
     generalize subT freshS body [(nm,nameT z)]=body' at *
     have hkk:∀ t∈([d,body]:List Tm).set 1 body',∀ j,OkTm (varF l f t j).1∧∀ ρ,ev ρ (varF l f t j).1=ev ρ t:=by
      intro t ht j
      have ht:t∈[d,body']:=ht
      rcases List.mem_cons.1 ht with rfl | ht
      ·exact ih _ j (hk _ (by simp)) (by omega) (by omega)
      ·rw[List.mem_singleton.1 ht]
       exact ih _ j hso (by omega) (by omega)
     refine⟨.mk (by rw[varK_len];exact formed_name2 hf hb hz1) (by rw[varK_len];exact hn) (varK_mem (fun t ht j=>(hkk t ht j).1)),fun ρ=>?_⟩
     rw[ev,ev,if_neg (binder_ne hb).1,if_neg (binder_ne hb).1,varK_ev _ _ _ (fun t ht j ρ=>(hkk t ht j).2 ρ),hb]
     show Db.nd op N ty [ev ρ d,ev (upE z ρ) body']=Db.nd op N ty [ev ρ d,ev (upE nm ρ) body]
     rw[hre]
def varyT (l:List Int) (t:Tm):Tm:=(varF l (tmD t) t 0).1
theorem vary_ok {l:List Int} {t:Tm} (h:OkTm t) (hM:tmN t≤700000):OkTm (varyT l t):=(vary_main l _ t 0 h hM (Nat.le_refl _)).1
theorem vary_db {l:List Int} {t:Tm} (h:OkTm t) (hM:tmN t≤700000):dbT (varyT l t)=dbT t:=(vary_main l _ t 0 h hM (Nat.le_refl _)).2 _
theorem mb_drop {s:ByteArray} {l:List ByteArray} {k:Nat} (h:k<l.length):mb s (l.drop k)=(decide (l[k]=s)||mb s (l.drop (k+1))):=by
 rw[List.drop_eq_getElem_cons h];unfold mb;rw[List.any_cons]
theorem rinN_any {ok:Nat→Prop} {w:World} {l:List ByteArray} {v:Value} (s:ByteArray) (h:NmL ok w l v) (hn:l.length≤10000000):
  Calls Tryz.prog 129 #[.string s,v] w fun e w'=>e=.returned (.bool (mb s l))∧w=w':=by
 obtain⟨a,c,rfl⟩:=h.slice
 have HAT:=Ld (fun i hi=>h.at i hi)
 have HN:=Ld hn
 clear h hn
 go_enter Tryz.func129,Tryz.ntmps129
 go_wp2_with fail
 go_loop [5] (fun i=>∃ k:Nat,k≤l.length∧i=.int .i64 k∧Hid (mb s l=mb s (l.drop k))) (fun i=>l.length-(intOf i).toNat)
 case atStart=>exact⟨0,Nat.zero_le _,rfl,Ld rfl⟩
 case round=>
  obtain⟨k,hk,rfl,hq⟩:=hrel
  by_cases hlt:k<l.length
  ·have i1:(k:Int)<(l.length:Int):=by omega
   have i2:(k:Int)<10000000:=by have:=HN.out;omega
   obtain⟨g,off,rfl,_,c0⟩:=HAT.out k hlt
   have HS:=Ld (mb_drop (s:=s) hlt)
   cases hs:(l[k].toList==s.toList)
   ·have hne:Hid (decide (l[k]=s)=false):=Ld (by rw[nm_eq] at hs;exact hs)
    go_wp2_with fail
    go_round
    case rel=>exact⟨k+1,by omega,by go_num,Ld (by rw[hq.out,HS.out,hne.out];rfl)⟩
    case measure=>simp[intOf];omega
   ·have hye:Hid (decide (l[k]=s)=true):=Ld (by rw[nm_eq] at hs;exact hs)
    go_wp2_with fail
    go_ret
    exact⟨by rw[hq.out,HS.out,hye.out];rfl,rfl⟩
  ·have hkk:k=l.length:=by omega
   subst hkk
   have HE:Hid (mb s l=false):=Ld (by rw[hq.out,List.drop_length];rfl)
   go_wp2_with fail
   go_ret
   exact⟨by rw[HE.out];rfl,rfl⟩
theorem exL_drop {s:ByteArray} {l:List ByteArray} {k:Nat} (h:k<l.length):exL (l.drop k) s=(if decide (l[k]=s) then [] else [l[k]])++exL (l.drop (k+1)) s:=by
 rw[List.drop_eq_getElem_cons h];unfold exL;rw[List.filter_cons]
 cases hd:decide (l[k]=s) <;> simp
theorem rexc_any {ok:Nat→Prop} {w:World} {l:List ByteArray} {v:Value} (s:ByteArray) (h:NmL ok w l v) (hn:l.length≤1000000):
  Calls Tryz.prog 124 #[v,.string s] w fun e w'=>∃ v',e=.returned v'∧NRow w w.heap.size w' (exL l s) v':=by
 obtain⟨i9,hi9,hz9,hs9,hb9⟩:=info_str
 have HI:=Ld hi9
 have HZ:=Ld hz9
 have HS:=Ld hs9
 have HB:=Ld hb9
 obtain⟨a,c,rfl⟩:=h.slice
 have HAT:=Ld (fun W (k:Kept (fun _=>False) w W)=>(h.frame (sK k)).at)
 have HN:=Ld hn
 clear h hi9 hz9 hs9 hb9 hn
 go_enter Tryz.func124,Tryz.ntmps124
 go_wp2_with fail
 go_loopw [5,6] (fun v i wr=>∃ (k:Nat) (out:List ByteArray),k≤l.length∧i=.int .i64 k∧NRow w w.heap.size wr out v∧Hid (exL l s=out++exL (l.drop k) s∧out.length≤k)) (fun v i _=>l.length-(intOf i).toNat)
 case atStart=>exact⟨0,[],Nat.zero_le _,rfl,⟨Kept.refl _ _,World.ownsRow_nil _ _ _ _⟩,Ld ⟨rfl,Nat.le_refl _⟩⟩
 case round=>
  obtain⟨k,out,hkl,rfl,hR,hq⟩:=hrel
  obtain⟨va,vc,hv⟩:=hR.nml.slice
  subst hv
  have R:=Ld hR
  clear hR
  by_cases hlt:k<l.length
  ·have i1:(k:Int)<(l.length:Int):=by omega
   have i2:(k:Int)<1000000:=by have:=HN.out;omega
   obtain⟨g,off,rfl,_,c0⟩:=HAT.out wr R.out.kp k hlt
   have HD:=Ld (exL_drop (s:=s) hlt)
   cases hs:(l[k].toList==s.toList)
   ·have hne:Hid (decide (l[k]=s)=false):=Ld (by rw[nm_eq] at hs;exact hs)
    have hN2:Hid (exL l s=(out++[l[k]])++exL (l.drop (k+1)) s):=Ld (by rw[hq.out.1,HD.out,hne.out,List.append_assoc];rfl)
    have hLn:Hid (out.length≤k):=Ld hq.out.2
    go_wp2_with (at_builtin;refine wpList_app_src rfl (.tmp 19) (.tmp 24) _ rfl w.heap.size 9 i9 _ 1 16 Tryz.underlying41 HI.out HZ.out HS.out HB.out rfl (by decide) (.slice va out.length vc) out.length (out.map Value.string) rfl (R.out.own.alloc _) (.slice (some ⟨wr.heap.size,0,none⟩) 1 1) 1 [.string l[k]] rfl (.inr ⟨_,_,rfl,cell_one_new _ _ _⟩) rfl (strs_one [l[k]]) ?_ ?_ ?_ ?_)
    ·have:=hLn.out;unfold maxLen;omega
    ·have:=hLn.out;omega
    ·have:=R.out.kp.size;simp;omega
    intro v2 w2 own2 hg2 hat2
    have R2:=Ld (NRow.app (W:=wr.alloc (.cells #[.string l[k]] 9)) (r:=[l[k]]) ⟨R.out.kp.alloc _,R.out.own.alloc _⟩ (Nat.le_refl _) own2 hg2)
    clear own2 hg2 hat2
    go_wp2_with fail
    go_roundw
    case rel=>exact⟨k+1,_,by omega,by go_num,R2.out,Ld ⟨hN2.out,by have:=hLn.out;simp;omega⟩⟩
    case measure=>simp[intOf];omega
   ·have hye:Hid (decide (l[k]=s)=true):=Ld (by rw[nm_eq] at hs;exact hs)
    have hN2:Hid (exL l s=out++exL (l.drop (k+1)) s):=Ld (by rw[hq.out.1,HD.out,hye.out];rfl)
    go_wp2_with fail
    go_roundw
    case rel=>exact⟨k+1,_,by omega,by go_num,R.out,Ld ⟨hN2.out,by have:=hq.out.2;omega⟩⟩
    case measure=>simp[intOf];omega
  ·have hkk:k=l.length:=by omega
   subst hkk
   have HE:Hid (exL l s=out):=Ld (by rw[hq.out.1,List.drop_length];simp[exL])
   go_wp2_with fail
   go_ret
   exact⟨_,rfl,by rw[HE.out];exact R.out⟩
def EqyC (f:FuncId) (t:Ty):Prop:=∀ (t':Ty) (w:World) (ok ok':Nat→Prop) (tk tk':Value),TyL ok w t.kids tk→TyL ok' w t'.kids tk' →
 Calls Tryz.prog f #[tyVal t tk,tyVal t' tk'] w fun e w'=>e=.returned (.bool (tyEq t t'))∧Kept (fun _=>False) w w'
theorem tysEq_len:∀ (l l':List Ty),l.length≠l'.length→tysEq l l'=false
 | [],[],h=>absurd rfl h
 | [],_::_,_=>rfl
 | _::_,[],_=>rfl
 | a::l,b::l',h=>by rw[tysEq,tysEq_len l l' (by simpa using h),Bool.and_false]
theorem tysEq_drop {l l':List Ty} {k:Nat} (h:k<l.length) (h':k<l'.length):tysEq (l.drop k) (l'.drop k)=(tyEq l[k] l'[k]&&tysEq (l.drop (k+1)) (l'.drop (k+1))):=by
 rw[List.drop_eq_getElem_cons h,List.drop_eq_getElem_cons h',tysEq]
theorem tysEq_end {l l':List Ty} {k:Nat} (h:l.length≤k) (h':l'.length≤k):tysEq (l.drop k) (l'.drop k)=true:=by
 rw[List.drop_eq_nil_of_le h,List.drop_eq_nil_of_le h'];rfl
theorem rsame_one {kd:Int} {nm:ByteArray} {l:List Ty} (IH:∀ u,u∈l→EqyC 51 u) (hn:l.length≤1000000):EqyC 51 (.mk kd nm l):=by
 rintro⟨kd',nm',l'⟩ w ok ok' tk tk' h h'
 have h:TyL ok w l tk:=h
 have h':TyL ok' w l' tk':=h'
 obtain⟨a,n,c,rfl⟩:=h.slice
 obtain⟨a',n',c',rfl⟩:=h'.slice
 obtain rfl:n=l.length:=h.len
 obtain rfl:n'=l'.length:=h'.len
 have HIH:=Ld IH
 have HAT:=Ld (fun W (k:Kept (fun _=>False) w W)=>(h.frame (sK k)).at)
 have HAT':=Ld (fun W (k:Kept (fun _=>False) w W)=>(h'.frame (sK k)).at)
 clear h h' IH
 change Calls Tryz.prog 51 #[.agg #[.int .i64 kd,.string nm,.slice a l.length c],.agg #[.int .i64 kd',.string nm',.slice a' l'.length c']] w _
 have bA:Blk ((w.alloc (.cells #[.int .i64 kd,.string nm,.slice a l.length c] 26)).alloc (.cells #[.int .i64 kd',.string nm',.slice a' l'.length c'] 26)) w.heap.size 26 [.int .i64 kd,.string nm,.slice a l.length c]:=(Blk.new w 26 _).alloc _
 have bB:Blk ((w.alloc (.cells #[.int .i64 kd,.string nm,.slice a l.length c] 26)).alloc (.cells #[.int .i64 kd',.string nm',.slice a' l'.length c'] 26)) (w.heap.size+1) 26 [.int .i64 kd',.string nm',.slice a' l'.length c']:=Blk.new' 26 _ (by simp)
 have K1:Kept (fun _=>False) w ((w.alloc (.cells #[.int .i64 kd,.string nm,.slice a l.length c] 26)).alloc (.cells #[.int .i64 kd',.string nm',.slice a' l'.length c'] 26)):=(kR.alloc _).alloc _
 have HD:=Ld (show tyEq (.mk kd nm l) (.mk kd' nm' l')=(decide (kd=kd')&&decide (nm=nm')&&tysEq l l') from rfl)
 by_cases e1:kd=kd'
 case neg=>
  have t1:(kd==kd')=false:=by simpa using e1
  have t2:(kd != kd')=true:=by simpa using e1
  have HR:Hid (tyEq (.mk kd nm l) (.mk kd' nm' l')=false):=Ld (by rw[HD.out];simp[e1])
  clear e1
  go_enter Tryz.func51,Tryz.ntmps51
  go_wp2_with fail
  go_ret
  exact⟨by rw[HR.out];rfl,K1⟩
 subst e1
 cases e2:(nm.toList==nm'.toList)
 case false=>
  have t2:(nm.toList != nm'.toList)=true:=by rw[bne,e2];rfl
  have HR:Hid (tyEq (.mk kd nm l) (.mk kd nm' l')=false):=Ld (by rw[HD.out,← nm_eq,e2];simp)
  go_enter Tryz.func51,Tryz.ntmps51
  go_wp2_with fail
  go_ret
  exact⟨by rw[HR.out];rfl,K1⟩
 have t2:(nm.toList != nm'.toList)=false:=by rw[bne,e2];rfl
 have HD2:Hid (tyEq (.mk kd nm l) (.mk kd nm' l')=tysEq l l'):=Ld (by rw[HD.out,← nm_eq,e2];simp)
 clear HD
 by_cases e3:l.length=l'.length
 case neg=>
  have t3:((l.length:Int) != (l'.length:Int))=true:=by simp;omega
  have t4:((l.length:Int)==(l'.length:Int))=false:=by simp;omega
  have HR:Hid (tyEq (.mk kd nm l) (.mk kd nm' l')=false):=Ld (by rw[HD2.out,tysEq_len _ _ e3])
  clear e3
  go_enter Tryz.func51,Tryz.ntmps51
  go_wp2_with fail
  go_ret
  exact⟨by rw[HR.out];rfl,K1⟩
 have E3:=Ld e3
 rw[← e3] at bA bB K1 ⊢
 clear e3
 go_enter Tryz.func51,Tryz.ntmps51
 go_wp2_with fail
 generalize ((w.alloc (.cells #[.int .i64 kd,.string nm,.slice a l.length c] 26)).alloc (.cells #[.int .i64 kd,.string nm',.slice a' l.length c'] 26))=w1 at *
 go_loopw [5] (fun i wr=>∃ j:Nat,j≤l.length∧i=.int .i64 j∧Kept (fun _=>False) w1 wr∧Hid (tysEq l l'=tysEq (l.drop j) (l'.drop j))) (fun i _=>l.length-(intOf i).toNat)
 case atStart=>exact⟨0,Nat.zero_le _,rfl,Kept.refl _ _,Ld rfl⟩
 case round=>
  obtain⟨j,hj,rfl,kr,hq⟩:=hrel
  have g2:wr.cell? ⟨w.heap.size,2,none⟩=some (.slice a l.length c):=(bA.kept kr (fun h=>h)).cell 2
  have g2':wr.cell? ⟨w.heap.size+1,2,none⟩=some (.slice a' l.length c'):=(bB.kept kr (fun h=>h)).cell 2
  by_cases hlt:j<l.length
  ·have KR:=K1.trans kr
   have hlt':j<l'.length:=by rw[← E3.out];exact hlt
   obtain⟨g,off,ta,tn,tc,rfl,_,lg,⟨c0,c1,c2⟩,hty⟩:=HAT.out wr KR j hlt
   obtain⟨g',off',ta',tn',tc',rfl,_,lg',⟨d0,d1,d2⟩,hty'⟩:=HAT'.out wr KR j hlt'
   have hcon:=Ld (fun (W:World) (kW:Kept (fun _=>False) wr W)=>HIH.out _ (List.getElem_mem hlt) l'[j] W ok ok' _ _ (hty.frame (Same.of_kept kW (fun k h e=>e))) (hty'.frame (Same.of_kept kW (fun k h e=>e))))
   unfold tyVal at hcon
   have HS:=Ld (tysEq_drop hlt hlt')
   clear hty hty'
   have hj2:(j:Int)<(l.length:Int):=by omega
   have hj3:(j:Int)<1000000:=by omega
   go_wp2_with fail
   go_still_tail 10,(by kernel_rfl)
   change wpList _ _ _ _ _ wr.drew
   have kd:Kept (fun _=>False) wr wr.drew:=kR.drew
   generalize wr.drew=w2 at *
   cases hr:tyEq l[j] l'[j]
   ·rw[hr] at hcon
    go_wp2_with (go_at_call 51;refine (hcon.out _ kd).mono ?_;rintro e w' ⟨rfl,k2⟩)
    go_ret
    exact⟨by rw[HD2.out,hq.out,HS.out,hr];rfl,K1.trans (kr.trans (kd.trans k2))⟩
   ·rw[hr] at hcon
    go_wp2_with (go_at_call 51;refine (hcon.out _ kd).mono ?_;rintro e w' ⟨rfl,k2⟩)
    go_roundw
    case rel=>exact⟨j+1,by omega,by go_num,kr.trans (kd.trans k2),Ld (by rw[hq.out,HS.out,hr];rfl)⟩
    case measure=>simp[intOf];omega
  ·have HZ:Hid (tysEq l l'=true):=Ld (by rw[hq.out,tysEq_end (by omega) (by rw[← E3.out];omega)])
   go_wp2_with fail
   go_ret
   exact⟨by rw[HD2.out,HZ.out];rfl,K1.trans kr⟩
theorem rsameTy_any {t:Ty} (hb:BdTy t):EqyC 51 t:=by
 induction hb with
 | mk hn hl ih=>exact rsame_one ih hn
theorem eqf_any {l l':List Ty} {w:World} {ok ok':Nat→Prop} {tk tk':Value} (IH:∀ u,u∈l→EqyC 110 u) (hn:l.length≤1000000) (h:TyL ok w l tk) (h':TyL ok' w l' tk'):
  Calls Tryz.prog 176 #[tk,tk',.func (.func 110) #[] #[]] w fun e w'=>e=.returned (.bool (tysEq l l'))∧Kept (fun _=>False) w w':=by
 obtain⟨a,n,c,rfl⟩:=h.slice
 obtain⟨a',n',c',rfl⟩:=h'.slice
 obtain rfl:n=l.length:=h.len
 obtain rfl:n'=l'.length:=h'.len
 have HIH:=Ld IH
 have HAT:=Ld (fun W (k:Kept (fun _=>False) w W)=>(h.frame (sK k)).at)
 have HAT':=Ld (fun W (k:Kept (fun _=>False) w W)=>(h'.frame (sK k)).at)
 clear h h' IH
 by_cases e3:l.length=l'.length
 case neg=>
  have t3:((l.length:Int) != (l'.length:Int))=true:=by simp;omega
  have t4:((l.length:Int)==(l'.length:Int))=false:=by simp;omega
  have HR:Hid (tysEq l l'=false):=Ld (by rw[tysEq_len _ _ e3])
  clear e3
  go_enter Tryz.func176,Tryz.ntmps176
  go_wp2_with fail
  go_ret
  exact⟨by rw[HR.out];rfl,Kept.refl _ _⟩
 have E3:=Ld e3
 rw[← e3]
 clear e3
 go_enter Tryz.func176,Tryz.ntmps176
 go_wp2_with fail
 go_loopw [17] (fun i wr=>∃ j:Nat,j≤l.length∧i=.int .i64 j∧Kept (fun _=>False) w wr∧Hid (tysEq l l'=tysEq (l.drop j) (l'.drop j))) (fun i _=>l.length-(intOf i).toNat)
 case atStart=>exact⟨0,Nat.zero_le _,rfl,Kept.refl _ _,Ld rfl⟩
 case round=>
  obtain⟨j,hj,rfl,kr,hq⟩:=hrel
  by_cases hlt:j<l.length
  ·have hlt':j<l'.length:=by rw[← E3.out];exact hlt
   obtain⟨g,off,ta,tn,tc,rfl,_,lg,⟨c0,c1,c2⟩,hty⟩:=HAT.out wr kr j hlt
   obtain⟨g',off',ta',tn',tc',rfl,_,lg',⟨d0,d1,d2⟩,hty'⟩:=HAT'.out wr kr j hlt'
   have hcon:=Ld (fun (W:World) (kW:Kept (fun _=>False) wr W)=>HIH.out _ (List.getElem_mem hlt) l'[j] W ok ok' _ _ (hty.frame (Same.of_kept kW (fun k h e=>e))) (hty'.frame (Same.of_kept kW (fun k h e=>e))))
   unfold tyVal at hcon
   have HS:=Ld (tysEq_drop hlt hlt')
   clear hty hty'
   have hj2:(j:Int)<(l.length:Int):=by omega
   have hj3:(j:Int)<1000000:=by omega
   have kA:Kept (fun _=>False) wr ((wr.alloc (.cells #[.int .i64 l[j].kind,.string l[j].name,.slice ta tn tc] 26)).alloc (.cells #[.int .i64 l'[j].kind,.string l'[j].name,.slice ta' tn' tc'] 26)):=(kR.alloc _).alloc _
   cases hr:tyEq l[j] l'[j]
   ·rw[hr] at hcon
    go_wp2_with (go_at_call 110;refine (hcon.out _ kA).mono ?_;rintro e w' ⟨rfl,k2⟩)
    go_ret
    exact⟨by rw[hq.out,HS.out,hr];rfl,kr.trans (kA.trans k2)⟩
   ·rw[hr] at hcon
    go_wp2_with (go_at_call 110;refine (hcon.out _ kA).mono ?_;rintro e w' ⟨rfl,k2⟩)
    go_roundw
    case rel=>exact⟨j+1,by omega,by go_num,kr.trans (kA.trans k2),Ld (by rw[hq.out,HS.out,hr];rfl)⟩
    case measure=>simp[intOf];omega
  ·have HZ:Hid (tysEq l l'=true):=Ld (by rw[hq.out,tysEq_end (by omega) (by rw[← E3.out];omega)])
   go_wp2_with fail
   go_ret
   exact⟨by rw[HZ.out];rfl,kr⟩
theorem same_one1 {kd:Int} {nm:ByteArray} {l:List Ty} (IH:∀ u,u∈l→EqyC 110 u) (hn:l.length≤1000000):EqyC 110 (.mk kd nm l):=by
 rintro⟨kd',nm',l'⟩ w ok ok' tk tk' h h'
 have h:TyL ok w l tk:=h
 have h':TyL ok' w l' tk':=h'
 obtain⟨a,n,c,rfl⟩:=h.slice
 obtain⟨a',n',c',rfl⟩:=h'.slice
 have bA:Blk ((w.alloc (.cells #[.int .i64 kd,.string nm,.slice a n c] 26)).alloc (.cells #[.int .i64 kd',.string nm',.slice a' n' c'] 26)) w.heap.size 26 [.int .i64 kd,.string nm,.slice a n c]:=(Blk.new w 26 _).alloc _
 have bB:Blk ((w.alloc (.cells #[.int .i64 kd,.string nm,.slice a n c] 26)).alloc (.cells #[.int .i64 kd',.string nm',.slice a' n' c'] 26)) (w.heap.size+1) 26 [.int .i64 kd',.string nm',.slice a' n' c']:=Blk.new' 26 _ (by simp)
 have K1:Kept (fun _=>False) w ((w.alloc (.cells #[.int .i64 kd,.string nm,.slice a n c] 26)).alloc (.cells #[.int .i64 kd',.string nm',.slice a' n' c'] 26)):=(kR.alloc _).alloc _
 have HQ:=Ld (eqf_any IH hn (h.frame (sK K1)) (h'.frame (sK K1)))
 clear h h' IH
 change Calls Tryz.prog 110 #[.agg #[.int .i64 kd,.string nm,.slice a n c],.agg #[.int .i64 kd',.string nm',.slice a' n' c']] w _
 have HD:=Ld (show tyEq (.mk kd nm l) (.mk kd' nm' l')=(decide (kd=kd')&&decide (nm=nm')&&tysEq l l') from rfl)
 by_cases e1:kd=kd'
 case neg=>
  have t1:(kd==kd')=false:=by simpa using e1
  have t2:(kd != kd')=true:=by simpa using e1
  have HR:Hid (tyEq (.mk kd nm l) (.mk kd' nm' l')=false):=Ld (by rw[HD.out];simp[e1])
  clear e1 HQ
  go_enter Tryz.func110,Tryz.ntmps110
  go_wp2_with fail
  go_ret
  exact⟨by rw[HR.out];rfl,K1⟩
 subst e1
 cases e2:(nm.toList==nm'.toList)
 case false=>
  have t2:(nm.toList != nm'.toList)=true:=by rw[bne,e2];rfl
  have HR:Hid (tyEq (.mk kd nm l) (.mk kd nm' l')=false):=Ld (by rw[HD.out,← nm_eq,e2];simp)
  clear HQ
  go_enter Tryz.func110,Tryz.ntmps110
  go_wp2_with fail
  go_ret
  exact⟨by rw[HR.out];rfl,K1⟩
 have t2:(nm.toList != nm'.toList)=false:=by rw[bne,e2];rfl
 have HD2:Hid (tyEq (.mk kd nm l) (.mk kd nm' l')=tysEq l l'):=Ld (by rw[HD.out,← nm_eq,e2];simp)
 clear HD
 go_enter Tryz.func110,Tryz.ntmps110
 go_wp2_with (go_at_call 176;refine HQ.out.mono ?_;rintro e w' ⟨rfl,k2⟩)
 go_ret
 exact⟨by rw[HD2.out];rfl,K1.trans k2⟩
theorem sameType_any {t:Ty} (hb:BdTy t):EqyC 110 t:=by
 induction hb with
 | mk hn hl ih=>exact same_one1 ih hn
end Go.Proofs.YtfhedienjnfdcaaGreatDoor
