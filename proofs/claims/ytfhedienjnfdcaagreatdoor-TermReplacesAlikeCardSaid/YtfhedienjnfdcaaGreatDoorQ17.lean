/- A part. -/
import Derived.Test.YtfhedienjnfdcaaGreatDoorQ16
import Derived.Maps.RangeWalk
import Derived.Maps.Own
set_option linter.unusedVariables false
set_option linter.unusedSimpArgs false
set_option maxRecDepth 100000
set_option maxHeartbeats 32000000
namespace Go.Proofs.YtfhedienjnfdcaaGreatDoor
open Go.RowKit
def heldE (v:Value):Option (DataW Value×List MemPlace):=some (.held v,[])
def kL (s:ByteArray):Lit:=.string s.data.toList
theorem kL_inj {s t:ByteArray} (h:kL s=kL t):s=t:=by
 unfold kL at h
 cases s with | mk s=>cases t with | mk t=>simp only[Lit.string.injEq] at h;rw[Array.toList_inj.1 h]
theorem kL_key (s:ByteArray):WideAt.IsKeyLit (kL s):=trivial
theorem k9:Maps.Keyed Tryz.prog 9:=Maps.string_keyed Tryz.underlying9
theorem k9_of {s:ByteArray} (h:s.size≤maxLen):keyOf Tryz.prog 9 (.string s)=some (kL s):=WideMaps.keyOf_string_mk Tryz.underlying9 h
theorem k9_inv {key:Value} {kl:Lit} (h:keyOf Tryz.prog 9 key=some kl):∃ s:ByteArray,key=.string s∧kl=kL s∧s.size≤maxLen:=by
 have e:=keyOf_string Tryz.underlying9 (v:=key)
 cases key with
 | string s=>
  rw[keyOf_string Tryz.underlying9] at h
  simp only[mapKey,Tryz.underlying9] at h
  split at h
  ·cases h;exact⟨s,rfl,rfl,by assumption⟩
  ·cases h
 | _=>
  rw[keyOf_string Tryz.underlying9] at h
  simp[mapKey,Tryz.underlying9] at h
structure Says (D:DataW Value) (f:ByteArray→Option Value):Prop where
 has:∀ s,Maps.has D (kL s)=(f s).isSome
 val:∀ s v,f s=some v→∀ z,D.atKey (kL s) z=.held v
def MapF (w:World) (b n:Nat) (f:ByteArray→Option Value):Prop:=∃ D:DataW Value,w.ownsMap Tryz.prog 9 heldE b n D∧Says D f
def updF (f:ByteArray→Option Value) (s:ByteArray) (v:Value):ByteArray→Option Value:=fun t=>if t=s then some v else f t
theorem Says.get {D:DataW Value} {f:ByteArray→Option Value} (h:Says D f) (s:ByteArray) (z:Value):D.atKey (kL s) (.held z)=.held ((f s).getD z):=by
 cases hf:f s with
 | none=>
  have:=h.has s
  rw[hf] at this
  exact Maps.atKey_of_not_has this _
 | some v=>exact h.val s v hf _
theorem Says.put {D:DataW Value} {f:ByteArray→Option Value} (h:Says D f) (hD:Maps.IsMap D) (s:ByteArray) (v:Value):Says (D.put (kL s) (.held v)) (updF f s v):=by
 refine⟨fun t=>?_,fun t u hu z=>?_⟩
 ·unfold updF
  by_cases e:t=s
  ·subst e;rw[if_pos rfl,Maps.has_put_same hD (kL_key t)];rfl
  ·rw[if_neg e,Maps.has_put_other (fun h=>e (kL_inj h)),h.has]
 ·unfold updF at hu
  by_cases e:t=s
  ·subst e;rw[if_pos rfl] at hu;cases hu;exact Maps.atKey_put_same hD (kL_key t) _ _
  ·rw[if_neg e] at hu;rw[Maps.atKey_put_other (fun h=>e (kL_inj h))];exact h.val t u hu z
theorem MapF.made (w:World):MapF (w.alloc (.map #[] 0)) w.heap.size 0 (fun _=>none):=
 ⟨.map [],World.ownsMap_made w Tryz.prog 9 heldE,fun _=>rfl,fun _ _ h=>by cases h⟩
theorem MapF.lt {w:World} {b n:Nat} {f:ByteArray→Option Value} (h:MapF w b n f):b<w.heap.size:=by obtain⟨D,h,_⟩:=h;exact h.lt
theorem MapF.mono {w:World} {b n n':Nat} {f:ByteArray→Option Value} (h:MapF w b n f) (hn:n≤n'):MapF w b n' f:=by obtain⟨D,h,h2⟩:=h;exact⟨D,h.mono hn,h2⟩
theorem MapF.kept {S:Nat→Prop} {w w':World} {b n:Nat} {f:ByteArray→Option Value} (h:MapF w b n f) (k:Kept S w w') (hb:¬ S b):MapF w' b n f:=by
 have hlt:=h.lt
 obtain⟨D,⟨es,clock,h1,h2⟩,h3⟩:=h
 exact⟨D,⟨es,clock,(k.block b hlt hb).trans h1,h2⟩,h3⟩
theorem MapF.look {w:World} {b n:Nat} {f:ByteArray→Option Value} (h:MapF w b n f) {t e:TypeId} (ht:Tryz.prog.underlying t=some (.map 9 e)) {z:Value} (hz:(zeroValue e).run Tryz.prog w=.ok z w) {s:ByteArray} (hs:s.size≤maxLen):
  (Instr.lookup t (.map (some b)) (.string s) false).run Tryz.prog w=.ok ((f s).getD z) w:=by
 obtain⟨D,hD,hf⟩:=h
 obtain⟨v,ps,h1,h2⟩:=hD.lookup (z:=z) k9 ht hz (zd:=.held z) (zp:=[]) rfl (k9_of hs)
 rw[hf.get s z] at h2
 cases h2
 exact h1
theorem MapF.look_ok {w:World} {b n:Nat} {f:ByteArray→Option Value} (h:MapF w b n f) {t e:TypeId} (ht:Tryz.prog.underlying t=some (.map 9 e)) {z:Value} (hz:(zeroValue e).run Tryz.prog w=.ok z w) {s:ByteArray} (hs:s.size≤maxLen):
  (Instr.lookup t (.map (some b)) (.string s) true).run Tryz.prog w=.ok (.tuple #[(f s).getD z,.bool (f s).isSome]) w:=by
 obtain⟨D,hD,hf⟩:=h
 obtain⟨v,ps,h1,h2⟩:=hD.look_ok (z:=z) k9 ht hz (zd:=.held z) (zp:=[]) rfl (k9_of hs)
 rw[hf.get s z] at h2
 rw[hf.has s] at h1
 cases h2
 exact h1
theorem MapF.store {w:World} {b n:Nat} {f:ByteArray→Option Value} (h:MapF w b n f) {t e:TypeId} (ht:Tryz.prog.underlying t=some (.map 9 e)) {s:ByteArray} (hs:s.size≤maxLen) (hn:n<maxLen) (v:Value):
  ∃ w',(Instr.mapUpdate t (.map (some b)) (.string s) v).run Tryz.prog w=.ok () w'∧MapF w' b (n+1) (updF f s v)∧Kept (fun q=>q=b) w w':=by
 obtain⟨D,hD,hf⟩:=h
 obtain⟨w',h1,h2,h3⟩:=hD.update k9 ht hn (k9_of hs) (val:=v) (d:=.held v) (ps:=[]) rfl
 exact⟨w',h1,⟨_,h2,hf.put hD.isMap s v⟩,⟨h3.os,h3.tape,h3.output,h3.size,fun k hk hn=>h3.block k hk (fun e=>hn (Option.some.inj e))⟩⟩
theorem MapF.isEmpty {w:World} {b n:Nat} {f:ByteArray→Option Value} (h:MapF w b n f) {t e:TypeId} (ht:Tryz.prog.underlying t=some (.map 9 e)) (ty:TypeId):
  ∃ m:Nat,(Builtin.len_ #[t] ty #[.map (some b)]).run Tryz.prog w=.ok (.int .i64 m) w∧m≤n∧(m=0↔∀ s:ByteArray,s.size≤maxLen→f s=none):=by
 obtain⟨D,hD,hf⟩:=h
 refine⟨_,hD.len ht ty,hD.size_le,?_⟩
 obtain⟨es,clock,h1,F,h2,rfl⟩:=hD
 constructor
 ·intro h s _
  have h3:=hf.has s
  have h4:((es.toList.map (WideElems.rg Tryz.prog 9 heldE)).foldr DataW.insert [])=[]:=List.length_eq_zero_iff.1 h
  rw[h4] at h3
  cases hs:f s with
  | none=>rfl
  | some v=>rw[hs] at h3;cases h3
 ·intro h
  rw[Maps.size_eq]
  apply List.length_eq_zero_iff.2
  apply List.eq_nil_iff_forall_not_mem.2
  intro p hp
  obtain⟨x,hx,rfl⟩:=List.mem_map.1 (mem_sorted.1 hp)
  obtain⟨y,hy⟩:=F.reads x hx
  obtain⟨s,_,e2,hs⟩:=k9_inv (WideElems.rd_key hy)
  have h3:=hf.has s
  rw[h s hs,Maps.has_eq] at h3
  have h5:((es.toList.map (WideElems.rg Tryz.prog 9 heldE)).foldr DataW.insert []).any (fun p=>p.1.sameKey (kL s))=true:=
   List.any_eq_true.2 ⟨_,hp,by rw[WideElems.rg_of hy,e2];exact WideAt.sameKey_self (kL_key s)⟩
  rw[h5] at h3;cases h3
theorem MapF.small {w:World} {b n:Nat} {f:ByteArray→Option Value} (h:MapF w b n f) {s:ByteArray} (hs:(f s).isSome=true):s.size≤maxLen:=by
 obtain⟨D,hD,hf⟩:=h
 obtain⟨es,clock,h1,F,h2,rfl⟩:=hD
 have h3:=hf.has s
 rw[hs,Maps.has_eq] at h3
 obtain⟨p,hp,hk⟩:=List.any_eq_true.1 h3
 obtain⟨x,hx,rfl⟩:=List.mem_map.1 (mem_sorted.1 hp)
 obtain⟨y,hy⟩:=F.reads x hx
 obtain⟨s',_,e2,hs'⟩:=k9_inv (WideElems.rd_key hy)
 rw[WideElems.rg_of hy,e2] at hk
 have e:=kL_inj ((WideAt.sameKey_iff (kL_key s)).1 hk)
 rw[← e];exact hs'
def MapR (w:World) (b r n:Nat) (f:ByteArray→Option Value) (g:ByteArray→Bool) (cnt:Nat):Prop:=∃ (D:DataW Value) (left:Lit→Bool),w.ranges Tryz.prog 9 heldE b r n D left cnt∧Says D f∧∀ s,left (kL s)=g s
theorem MapR.map {w:World} {b r n cnt:Nat} {f:ByteArray→Option Value} {g:ByteArray→Bool} (h:MapR w b r n f g cnt):MapF w b n f:=by obtain⟨D,l,h,hf,_⟩:=h;exact⟨D,h.owns,hf⟩
theorem MapR.left {w:World} {b r n cnt:Nat} {f:ByteArray→Option Value} {g:ByteArray→Bool} (h:MapR w b r n f g cnt):w.rangeLeft b r=cnt:=by obtain⟨D,l,h,_⟩:=h;exact h.left_eq
theorem MapR.lt {w:World} {b r n cnt:Nat} {f:ByteArray→Option Value} {g:ByteArray→Bool} (h:MapR w b r n f g cnt):r<w.heap.size:=by obtain⟨D,l,h,_⟩:=h;exact h.lt
theorem MapR.kept {S:Nat→Prop} {w w':World} {b r n cnt:Nat} {f:ByteArray→Option Value} {g:ByteArray→Bool} (h:MapR w b r n f g cnt) (k:Kept S w w') (hb:¬ S b) (hr:¬ S r):MapR w' b r n f g cnt:=by
 have h1:=h.map.lt
 have h2:=h.lt
 obtain⟨D,l,⟨es,clock,since,seen,c0,e1,F,hs,hD,e2,rest⟩,hf⟩:=h
 exact⟨D,l,⟨es,clock,since,seen,c0,(k.block b h1 hb).trans e1,F,hs,hD,(k.block r h2 hr).trans e2,rest⟩,hf⟩
theorem MapF.range {w:World} {b n:Nat} {f:ByteArray→Option Value} (h:MapF w b n f) {t e:TypeId} (ht:Tryz.prog.underlying t=some (.map 9 e)):
  ∃ w' cnt,(Instr.range t (.map (some b))).run Tryz.prog w=.ok (.pointer (some ⟨w.heap.size,0,none⟩)) w'∧MapR w' b w.heap.size n f (fun s=>(f s).isSome) cnt∧Kept (fun _=>False) w w'∧w'.heap.size=w.heap.size+1∧cnt≤n:=by
 obtain⟨D,hD,hf⟩:=h
 obtain⟨w',h1,h2,h3,h4⟩:=hD.range k9 ht
 exact⟨w',_,h1,⟨D,_,h2,hf,hf.has⟩,⟨h3.os,h3.tape,h3.output,h3.size,fun k hk _=>h3.block k hk (by simp)⟩,h4,hD.size_le⟩
theorem MapR.next {w:World} {b r n cnt:Nat} {f:ByteArray→Option Value} {g:ByteArray→Bool} (h:MapR w b r n f g cnt) (ty:TypeId):
  ((∀ s:ByteArray,s.size≤maxLen→g s=false)∧(Instr.next (.pointer (some ⟨r,0,none⟩)) false ty).run Tryz.prog w=.ok (.tuple #[.bool false]) w) ∨
  ∃ s v w' cnt',s.size≤maxLen∧g s=true∧f s=some v∧(Instr.next (.pointer (some ⟨r,0,none⟩)) false ty).run Tryz.prog w=.ok (.tuple #[.bool true,.string s,v]) w' ∧
   MapR w' b r n f (fun t=>g t&&!decide (t=s)) cnt'∧cnt'<cnt∧Kept (fun q=>q=r) w w'∧w'.heap.size=w.heap.size∧(Instr.entry (.pointer (some ⟨r,0,none⟩))).run Tryz.prog w'=.ok (.tuple #[.string s,v]) w':=by
 obtain⟨D,l,h1,hf,hl⟩:=h
 rcases h1.next k9 ty with ⟨h0,ha,hrun⟩ | ⟨key,v,kl,y,w',cnt',hkey,hlk,hv,hat,hrun,hrg,hlt,hgr,hsz,hen⟩
 ·exact Or.inl ⟨fun s _=>by rw[← hl,ha],hrun⟩
 ·obtain⟨s,rfl,rfl,hs⟩:=k9_inv hkey
  cases hv
  have hfs:f s=some v:=by
   cases hfs:f s with
   | none=>
    have:=hat .nil
    rw[Maps.atKey_of_not_has (by rw[hf.has,hfs];rfl)] at this
    cases this
   | some u=>
    have:=hf.val s u hfs .nil
    rw[hat] at this
    cases this
    rfl
  refine Or.inr ⟨s,v,w',cnt',hs,by rw[← hl,hlk],hfs,hrun,⟨D,_,hrg,hf,fun t=>?_⟩,hlt,⟨hgr.os,hgr.tape,hgr.output,hgr.size,fun k hk hn=>hgr.block k hk (fun e=>hn (Option.some.inj e))⟩,hsz,hen⟩
  show (l (kL t)&&!(kL t).sameKey (kL s))=_
  have e:(kL t).sameKey (kL s)=decide (t=s):=by
   rw[Bool.eq_iff_iff,WideAt.sameKey_iff (kL_key s),decide_eq_true_eq]
   exact⟨kL_inj,fun e=>by rw[e]⟩
  rw[hl,e]
section
variable {ops:Array Oper} {rest:List Oper} {o:Oper} {a:Act} {Q:Exit→Act→World→Prop} {w:World} {b n:Nat} {f:ByteArray→Option Value} {t e:TypeId}
theorem wpList_storeF (hg:o.guard=none) (m x v:Operand) (t e:TypeId) (hop:o.op=Op.mapUpdate t m x v) (ht:Tryz.prog.underlying t=some (.map 9 e)) (hm:a.eval m=.map (some b)) (hM:MapF w b n f) (s:ByteArray) (hx:a.eval x=.string s) (hs:s.size≤maxLen) (hn:n<maxLen) (u:Value) (hv:a.eval v=u)
  (h:∀ w',MapF w' b (n+1) (updF f s u)→Kept (fun q=>q=b) w w'→wpList Tryz.prog ops Q rest (a.put o.dst undef) w'):wpList Tryz.prog ops Q (o::rest) a w:=by
 refine wpList_plain hg fun K' hK'=>?_
 obtain⟨w',hrun,r1,r2⟩:=hM.store ht hs hn u
 unfold Oper.wp
 simp[execOp,hop,hm,hx,hv,hrun,Result.andThen]
 exact hK' _ _ (h w' r1 r2)
theorem wpList_rangeF (hg:o.guard=none) (m:Operand) (t e:TypeId) (hop:o.op=Op.range t m) (ht:Tryz.prog.underlying t=some (.map 9 e)) (hm:a.eval m=.map (some b)) (hM:MapF w b n f)
  (h:∀ w' cnt,MapR w' b w.heap.size n f (fun s=>(f s).isSome) cnt→Kept (fun _=>False) w w'→w'.heap.size=w.heap.size+1→cnt≤n→wpList Tryz.prog ops Q rest (a.put o.dst (.pointer (some ⟨w.heap.size,0,none⟩))) w'):wpList Tryz.prog ops Q (o::rest) a w:=by
 refine wpList_plain hg fun K' hK'=>?_
 obtain⟨w',cnt,hrun,r1,r2,r3,r4⟩:=hM.range ht
 unfold Oper.wp
 simp[execOp,hop,hm,hrun,Result.andThen]
 exact hK' _ _ (h w' cnt r1 r2 r3 r4)
theorem wpList_nextF {r cnt:Nat} {g:ByteArray→Bool} (hg:o.guard=none) (it:Operand) (hop:o.op=Op.next it false) (hit:a.eval it=.pointer (some ⟨r,0,none⟩)) (hR:MapR w b r n f g cnt)
  (hDone:(∀ s:ByteArray,s.size≤maxLen→g s=false)→wpList Tryz.prog ops Q rest (a.put o.dst (.tuple #[.bool false])) w)
  (hMore:∀ (s:ByteArray) (v:Value) (w':World) (cnt':Nat),s.size≤maxLen→g s=true→f s=some v→MapR w' b r n f (fun t=>g t&&!decide (t=s)) cnt'→cnt'<cnt→Kept (fun q=>q=r) w w'→w'.heap.size=w.heap.size →
   (Instr.entry (.pointer (some ⟨r,0,none⟩))).run Tryz.prog w'=.ok (.tuple #[.string s,v]) w'→wpList Tryz.prog ops Q rest (a.put o.dst (.tuple #[.bool true,.string s,v])) w'):wpList Tryz.prog ops Q (o::rest) a w:=by
 refine wpList_plain hg fun K' hK'=>?_
 unfold Oper.wp
 rcases hR.next o.type with ⟨h0,hrun⟩ | ⟨s,v,w',cnt',h1,h2,h3,hrun,h4,h5,h6,h7,h8⟩
 ·simp[execOp,hop,hit,hrun,Result.andThen]
  exact hK' _ _ (hDone h0)
 ·simp[execOp,hop,hit,hrun,Result.andThen]
  exact hK' _ _ (hMore s v w' cnt' h1 h2 h3 h4 h5 h6 h7 h8)
end
def bagF (B:ByteArray→Bool):ByteArray→Option Value:=fun s=>if B s then some (.bool true) else none
theorem bagF_upd (B:ByteArray→Bool) (s:ByteArray):updF (bagF B) s (.bool true)=bagF (fun t=>B t||decide (t=s)):=by
 funext t
 unfold updF bagF
 by_cases e:t=s
 ·subst e;simp
 ·simp[e]
theorem bagF_get (B:ByteArray→Bool) (s:ByteArray):(bagF B s).getD (.bool false)=.bool (B s):=by
 unfold bagF;cases B s <;> rfl
def CntF (f:ByteArray→Option Value) (c:ByteArray→Nat):Prop:=∀ s,(f s).getD (.int .i64 0)=.int .i64 (c s)
theorem CntF.upd {f:ByteArray→Option Value} {c:ByteArray→Nat} (h:CntF f c) (s:ByteArray) (k:Nat):CntF (updF f s (.int .i64 k)) (fun t=>if t=s then k else c t):=by
 intro t
 show _=Value.int .i64 ((if t=s then k else c t:Nat):Int)
 unfold updF
 by_cases e:t=s
 ·rw[if_pos e,if_pos e];rfl
 ·rw[if_neg e,if_neg e];exact h t
theorem u90:Tryz.prog.underlying 90=some (.map 9 4):=Tryz.underlying90
theorem u95:Tryz.prog.underlying 95=some (.map 9 3):=Tryz.underlying95
theorem z4 (w:World):(zeroValue 4).run Tryz.prog w=.ok (.bool false) w:=Tryz.zeroValue4 w
theorem z3 (w:World):(zeroValue 3).run Tryz.prog w=.ok (.int .i64 0) w:=Tryz.zeroValue3 w
def rpCells (fm tu:Tm) (fk fkk uk ukk:Value) (fB tB:Nat) (cnt:Int):List Value:=
 [.int .i64 fm.op,.string fm.name,.int .i64 fm.n,.int .i64 fm.ty.kind,.string fm.ty.name,fk,fkk,.int .i64 tu.op,.string tu.name,.int .i64 tu.n,.int .i64 tu.ty.kind,.string tu.ty.name,uk,ukk,.map (some fB),.map (some tB),.int .i64 cnt]
def cgB (names:List ByteArray) (c:ByteArray→Nat):Bool:=names.any fun s=>decide (0<c s)
theorem cgB_yes {names:List ByteArray} {c:ByteArray→Nat} {s:ByteArray} (h:mb s names=true) (h2:0<c s):cgB names c=true:=by
 unfold cgB
 exact List.any_eq_true.2 ⟨s,(mb_iff _ _).1 h,decide_eq_true h2⟩
theorem cgB_no {names:List ByteArray} {c:ByteArray→Nat} (h:∀ s,mb s names=true→c s=0):cgB names c=false:=by
 unfold cgB
 rw[← Bool.not_eq_true]
 intro e
 obtain⟨s,h1,h2⟩:=List.any_eq_true.1 e
 have:=h s ((mb_iff _ _).2 h1)
 have:=of_decide_eq_true h2
 omega
theorem here_any {t fm tu:Tm} {names:List ByteArray} {c0:ByteArray→Nat} {ok okf:Nat→Prop} {w:World} {tk kk fk fkk uk ukk:Value} {R fB tB b nf nb:Nat} {cnt:Int} (hb:BdTm t) (hd:tmD t≤900000) (h1:TyL ok w t.ty.kids tk) (h2:TmL ok w t.kids kk) (h3:TyL okf w fm.ty.kids fk) (h4:TmL okf w fm.kids fkk)
  (hR:Blk w R 93 (rpCells fm tu fk fkk uk ukk fB tB cnt)) (hF:MapF w fB nf (bagF (fun s=>mb s names))) (hc:∃ f,MapF w b nb f∧CntF f c0):
  Calls Tryz.prog 139 #[.pointer (some ⟨R,0,none⟩),tmVal t tk kk,.map (some b)] w fun e w'=>e=.returned (.bool (!cgB names c0&&alikeT t fm [] []))∧Kept (fun _=>False) w w':=by
 obtain⟨p,n,c,rfl⟩:=h1.slice
 obtain⟨pa,pn,pc,rfl⟩:=h2.slice
 obtain⟨fp,fn,fc,rfl⟩:=h3.slice
 obtain⟨fa,fq,fr0,rfl⟩:=h4.slice
 obtain⟨fmap,hc1,hc2⟩:=hc
 have HAL:=Ld (fun W (k:Kept (fun _=>False) w W)=>salike_any hb fm [] [] W ok okf (fun _=>False) (fun _=>False) _ _ _ _ (.slice none 0 0) (.slice none 0 0) (h1.frame (sK k)) (h2.frame (sK k)) (h3.frame (sK k)) (h4.frame (sK k)) NmL.nil NmL.nil (by simp only[List.length_nil];omega) (by simp only[List.length_nil];omega))
 unfold tmVal at HAL ⊢
 have B1:Hid (Blk (w.alloc (.cells #[.int .i64 t.op,.string t.name,.int .i64 t.n,.int .i64 t.ty.kind,.string t.ty.name,.slice p n c,.slice pa pn pc] 28)) w.heap.size 28 [Value.int .i64 t.op,.string t.name,.int .i64 t.n,.int .i64 t.ty.kind,.string t.ty.name,.slice p n c,.slice pa pn pc]∧Kept (fun _=>False) w (w.alloc (.cells #[.int .i64 t.op,.string t.name,.int .i64 t.n,.int .i64 t.ty.kind,.string t.ty.name,.slice p n c,.slice pa pn pc] 28))):=Ld ⟨Blk.new w 28 _,kR.alloc _⟩
 have Z1:Hid ((w.alloc (.cells #[.int .i64 t.op,.string t.name,.int .i64 t.n,.int .i64 t.ty.kind,.string t.ty.name,.slice p n c,.slice pa pn pc] 28)).heap.size=w.heap.size+1):=Ld (World.size_alloc _ _)
 have HR0:=Ld (hR.kept B1.out.2 (fun e=>e))
 have F1:=Ld (hF.kept B1.out.2 (fun e=>e))
 have M1:=Ld (hc1.kept B1.out.2 (fun e=>e))
 have HL:Hid (R<w.heap.size∧b<w.heap.size∧fB<w.heap.size):=Ld ⟨hR.lt,hc1.lt,hF.lt⟩
 have HC2:=Ld hc2
 clear h1 h2 h3 h4 hR hF hc1 hc2 hb hd
 go_enter Tryz.func139,Tryz.ntmps139
 go_upto_region 1 with (fail)
 generalize w.alloc (.cells #[.int .i64 t.op,.string t.name,.int .i64 t.n,.int .i64 t.ty.kind,.string t.ty.name,.slice p n c,.slice pa pn pc] 28)=w1 at *
 have g14:w1.cell? ⟨R,14,none⟩=some (.map (some fB)):=HR0.out.cell 14
 go_wp2_with (at_range;refine wpList_rangeF rfl _ _ 4 rfl u90 rfl F1.out ?_;intro w2 cn hRg k2 z2 hcn)
 have HRG:=Ld hRg
 rw[Z1.out] at HRG
 have B2:Hid (Blk w2 w.heap.size 28 [Value.int .i64 t.op,.string t.name,.int .i64 t.n,.int .i64 t.ty.kind,.string t.ty.name,.slice p n c,.slice pa pn pc]∧Kept (fun _=>False) w w2∧Blk w2 R 93 (rpCells fm tu (.slice fp fn fc) (.slice fa fq fr0) uk ukk fB tB cnt)∧MapF w2 b nb fmap):=Ld ⟨B1.out.1.kept k2 (fun e=>e),B1.out.2.trans k2,HR0.out.kept k2 (fun e=>e),M1.out.kept k2 (fun e=>e)⟩
 have e1:=Z1.out
 rw[e1]
 clear hRg k2 z2 hcn B1 F1 M1 HR0 e1 g14
 go_loopw [7] (fun _ wr=>∃ (cnt':Nat) (g:ByteArray→Bool),MapR wr fB (w.heap.size+1) nf (bagF (fun s=>mb s names)) g cnt'∧Hid (Blk wr w.heap.size 28 [Value.int .i64 t.op,.string t.name,.int .i64 t.n,.int .i64 t.ty.kind,.string t.ty.name,.slice p n c,.slice pa pn pc]∧Kept (fun _=>False) w wr∧Blk wr R 93 (rpCells fm tu (.slice fp fn fc) (.slice fa fq fr0) uk ukk fB tB cnt)∧MapF wr b nb fmap∧(∀ s,mb s names=true→g s=false→c0 s=0)∧(∀ s,g s=true→mb s names=true))) (fun _ wr=>wr.rangeLeft fB (w.heap.size+1))
 case atStart=>
  refine⟨cn,_,HRG.out,Ld ⟨B2.out.1,B2.out.2.1,B2.out.2.2.1,B2.out.2.2.2,fun s h1 h2=>?_,fun s h=>?_⟩⟩
  ·simp[bagF,h1] at h2
  ·unfold bagF at h
   cases hm:mb s names with
   | true=>rfl
   | false=>simp[hm] at h
 case round=>
  obtain⟨cnt',g,hRr,hq⟩:=hrel
  have HRR:=Ld hRr
  have HLF:=Ld hRr.left
  clear hRr HRG B2
  go_wp2_with (at_next;refine wpList_nextF rfl _ rfl rfl HRR.out ?_ ?_)
  ·intro h0
   have HCG:Hid (cgB names c0=false):=Ld (cgB_no (fun s hs=>hq.out.2.2.2.2.1 s hs (by
    cases hg:g s with
    | false=>rfl
    | true=>rw[h0 s (HRR.out.map.small (by simp[bagF,hs]))] at hg;cases hg)))
   clear h0
   go_upto_region 6 with (fail)
   have KD:Kept (fun _=>False) wr wr.drew:=kR.drew
   refine wp_region_mono (L:=Kept (fun _=>False)) (fun i v W=>match i with
    | 0=>v=.agg #[.slice none 0 0,.slice none 0 0]
    | 1=>v=.agg #[.int .i64 t.op,.string t.name,.int .i64 t.n,.int .i64 t.ty.kind,.string t.ty.name,.slice p n c,.slice pa pn pc]
    | 2=>v=.pointer (some ⟨R,0,none⟩)
    | 3=>v=.pointer (some ⟨R,0,none⟩)
    | 4=>v=.pointer (some ⟨R,0,none⟩)
    | 5=>v=.agg #[.int .i64 fm.op,.string fm.name,.int .i64 fm.n,.int .i64 fm.ty.kind,.string fm.ty.name,.slice fp fn fc,.slice fa fq fr0]
    | 6=>v=.bool (alikeT t fm [] [])
    | _=>True) [7] [] 28 (by kernel_rfl) rfl (by kernel_rfl) (by kernel_rfl) (fun w=>Kept.refl _ w) (fun _ _ _ h1 h2=>h1.trans h2) (fun c d v a w h=>by cases d <;> exact h) ?_ ?_
   ·refine allM_cons rfl (stepM_of [] rfl fun W k'=>allV_nil ?_) ?_
    ·refine opW_go rfl fun K hK=>?_
     go_simp
     exact hK _ _ (KT.mk kR rfl 21 rfl rfl)
    refine allM_cons rfl (stepM_of [] rfl fun W k'=>allV_nil ?_) ?_
    ·have q:=KD.trans k'
     have gA:=(hq.out.1.kept q (fun h=>h)).cell
     refine opW_go rfl fun K hK=>?_
     go_simp
     exact hK _ _ (KT.mk kR rfl 22 rfl rfl)
    refine allM_cons rfl (stepM_of [] rfl fun W k'=>allV_nil ?_) ?_
    ·refine opW_go rfl fun K hK=>?_
     go_simp
     exact hK _ _ (KT.mk kR rfl 23 rfl rfl)
    refine allM_cons rfl (stepM_of [2] rfl fun W k'=>allV_some 23 rfl fun v0 h0=>allV_nil ?_) ?_
    ·obtain⟨w1,k1,rfl⟩:=h0
     refine opW_go rfl fun K hK=>?_
     go_simp
     exact hK _ _ (KT.mk kR rfl 24 rfl rfl)
    refine allM_cons rfl (stepM_of [3] rfl fun W k'=>allV_some 24 rfl fun v0 h0=>allV_nil ?_) ?_
    ·obtain⟨w1,k1,rfl⟩:=h0
     refine opW_go rfl fun K hK=>?_
     go_simp
     exact hK _ _ (KT.mk kR rfl 25 rfl rfl)
    refine allM_cons rfl (stepM_of [4] rfl fun W k'=>allV_some 25 rfl fun v0 h0=>allV_nil ?_) ?_
    ·obtain⟨w1,k1,rfl⟩:=h0
     have q:=KD.trans k'
     have gF:∀ i,W.cell? ⟨R,i,none⟩=[Value.int .i64 fm.op,.string fm.name,.int .i64 fm.n,.int .i64 fm.ty.kind,.string fm.ty.name,.slice fp fn fc,.slice fa fq fr0,.int .i64 tu.op,.string tu.name,.int .i64 tu.n,.int .i64 tu.ty.kind,.string tu.ty.name,uk,ukk,.map (some fB),.map (some tB),.int .i64 cnt][i]?:=(hq.out.2.2.1.kept q (fun h=>h)).cell
     refine opW_go rfl fun K hK=>?_
     go_simp
     exact hK _ _ (KT.mk kR rfl 26 rfl rfl)
    refine allM_cons rfl (stepM_of [0,1,5] rfl fun W k'=>allV_some 21 rfl fun v0 h0=>allV_some 22 rfl fun v1 h1=>allV_some 26 rfl fun v2 h2=>allV_nil ?_) ?_
    ·obtain⟨w1,k1,rfl⟩:=h0
     obtain⟨w2,k2,rfl⟩:=h1
     obtain⟨w3,k3,rfl⟩:=h2
     refine opW_go rfl fun K hK=>?_
     go_simp
     go_at_call 69
     refine (HAL.out W (hq.out.2.1.trans (KD.trans k'))).mono ?_
     rintro e w' ⟨rfl,k4⟩
     exact hK _ _ (KT.mk k4 rfl 27 rfl rfl)
    refine allM_tail rfl ?_
    exact allM_nil
   ·intro W kW
    have hh:(List.range 8).filter (fun i=>!([7]:List Nat).contains i)=[0,1,2,3,4,5,6]:=by decide
    change allV _ _ _ _ _ ((List.range 8).filter (fun i=>!([7]:List Nat).contains i)) _
    rw[hh]
    refine allV_some 21 rfl fun v0 h0=>allV_some 22 rfl fun v1 h1=>allV_some 23 rfl fun v2 h2=>allV_some 24 rfl fun v3 h3=>allV_some 25 rfl fun v4 h4=>allV_some 26 rfl fun v5 h5=>allV_some 27 rfl fun v6 h6=>allV_nil ?_
    obtain⟨w0,k0,rfl⟩:=h0
    obtain⟨w1,k1,rfl⟩:=h1
    obtain⟨w2,k2,rfl⟩:=h2
    obtain⟨w3,k3,rfl⟩:=h3
    obtain⟨w4,k4,rfl⟩:=h4
    obtain⟨w5,k5,rfl⟩:=h5
    obtain⟨w6,k6,rfl⟩:=h6
    have K5:=Ld (hq.out.2.1.trans (KD.trans kW))
    clear hq KD kW hh
    show wpList Tryz.prog _ _ [_] _ W
    simp only[Act.put,List.setIfInBounds_toArray,List.set_cons_succ,List.set_cons_zero]
    go_wp2_with fail
    go_ret
    exact⟨by rw[HCG.out];rfl,K5.out⟩
  ·intro s v w3 cnt3 hs hg hfs hR3 hlt k3 zz3 hen
   have hv:v=.bool true:=by
    unfold bagF at hfs
    rw[if_pos (hq.out.2.2.2.2.2 s hg)] at hfs
    exact (Option.some.inj hfs).symm
   subst hv
   have hRb:=HL.out
   have Q3:Hid (Blk w3 w.heap.size 28 [Value.int .i64 t.op,.string t.name,.int .i64 t.n,.int .i64 t.ty.kind,.string t.ty.name,.slice p n c,.slice pa pn pc]∧Kept (fun _=>False) w w3∧Blk w3 R 93 (rpCells fm tu (.slice fp fn fc) (.slice fa fq fr0) uk ukk fB tB cnt)∧MapF w3 b nb fmap):=Ld ⟨hq.out.1.kept k3 (by show ¬ w.heap.size=w.heap.size+1;omega),hq.out.2.1.via1 k3 (fun q hq e=>by omega),hq.out.2.2.1.kept k3 (by show ¬ R=w.heap.size+1;omega),hq.out.2.2.2.1.kept k3 (by show ¬ b=w.heap.size+1;omega)⟩
   have hlk:=Q3.out.2.2.2.look u95 (z3 _) hs
   rw[HC2.out s] at hlk
   have HGS:=Ld (hq.out.2.2.2.2.2 s hg)
   have HQ5:=Ld hq.out.2.2.2.2
   have HR4:=Ld hR3
   clear hq hRb zz3 k3 hg hfs hs hR3 HRR
   by_cases hcs:0<c0 s
   case neg=>
    have hz:c0 s=0:=by omega
    have HZ:=Ld hz
    clear hz
    go_wp2_with fail
    go_roundw
    case rel=>exact⟨cnt3,_,HR4.out,Ld ⟨Q3.out.1,Q3.out.2.1,Q3.out.2.2.1,Q3.out.2.2.2,fun x h1 h2=>(by
     by_cases e:x=s
     ·rw[e];exact HZ.out
     ·simp[e] at h2;exact HQ5.out.1 x h1 h2),fun x h1=>(by
     rw[Bool.and_eq_true] at h1
     exact HQ5.out.2 x h1.1)⟩⟩
    case measure=>rw[HR4.out.left,HLF.out];exact hlt
   case pos=>
    have HCG:Hid (cgB names c0=true):=Ld (cgB_yes HGS.out hcs)
    go_wp2_with fail
    go_ret
    exact⟨by rw[HCG.out];rfl,Q3.out.2.1⟩
structure ClcR (b p n m:Nat) (c:ByteArray→Nat) (B:ByteArray→Bool) (w w':World):Prop where
 kp:Kept (fun q=>q=b∨q=p) w w'
 bo:∃ f,MapF w' b n f∧CntF f c
 into:MapF w' p m (bagF B)
def ClcC (t:Tm):Prop:=∀ (B:ByteArray→Bool) (c:ByteArray→Nat) (w:World) (ok:Nat→Prop) (tk kk:Value) (b n p m:Nat),TyL ok w t.ty.kids tk→TmL ok w t.kids kk→(∃ f,MapF w b n f∧CntF f c)→MapF w p m (bagF B)→b≠p→(∀ q,ok q→q≠b∧q≠p)→n+2*tmN t≤1000000→m+tmN t≤1000000→(∀ s,c s+tmD t≤1000000) →
 Calls Tryz.prog 138 #[tmVal t tk kk,.map (some b),.map (some p)] w fun e w'=>e=.returned (.tuple #[])∧ClcR b p (n+2*tmN t) (m+tmN t) c (fun s=>B s||(mb s (fr t)&&decide (c s=0))) w w'
theorem frs_drop {bi:Bool} {nm:ByteArray} {ks:List Tm} {k:Nat} (h:k<ks.length) (s:ByteArray):mb s (frs bi nm k (ks.drop k))=((mb s (fr ks[k])&&!(bi&&k==1&&decide (s=nm)))||mb s (frs bi nm (k+1) (ks.drop (k+1)))):=by
 rw[List.drop_eq_getElem_cons h,frs,mb_app]
 congr 1
 cases hb:(bi&&k==1)
 ·simp
 ·simp only[if_true,Bool.true_and]
  rw[Bool.eq_iff_iff,mb_iff,List.mem_filter,Bool.and_eq_true,mb_iff]
theorem kid_dn {ks:List Tm} {t:Tm} (h:t∈ks):tmD t≤tmDs ks:=by
 induction ks with
 | nil=>cases h
 | cons a ks ih=>
  rw[tmDs]
  rcases List.mem_cons.1 h with rfl | h
  ·omega
  ·have:=ih h;omega
structure ClcS (w:World) (ce:List Value) (b p n m:Nat) (c:ByteArray→Nat) (B:ByteArray→Bool) (W:World):Prop where
 r:ClcR b p n m c B w W
 a:Blk W w.heap.size 28 ce
theorem ClcS.kept {w:World} {ce:List Value} {b p n m:Nat} {c:ByteArray→Nat} {B:ByteArray→Bool} {W W':World} (h:ClcS w ce b p n m c B W) (k:Kept (fun _=>False) W W'):ClcS w ce b p n m c B W':=by
 obtain⟨⟨h1,⟨f,h2,h3⟩,h4⟩,h5⟩:=h
 exact⟨⟨h1.trans (k.mono (fun _ _ e=>e.elim)),⟨f,h2.kept k (fun e=>e),h3⟩,h4.kept k (fun e=>e)⟩,h5.kept k (fun e=>e)⟩
theorem ClcS.step {w:World} {ce:List Value} {b p n m n' m':Nat} {c c':ByteArray→Nat} {B B':ByteArray→Bool} {W W':World} (h:ClcS w ce b p n m c B W) (hl:b<w.heap.size∧p<w.heap.size∧b≠p) (r:ClcR b p n' m' c' B' W W'):ClcS w ce b p n' m' c' B' W':=
 ⟨⟨h.r.kp.trans r.kp,r.bo,r.into⟩,h.a.kept r.kp (fun e=>by rcases e with e | e <;> omega)⟩
theorem ClcS.cnt {w:World} {ce:List Value} {b p n m n':Nat} {c c':ByteArray→Nat} {B:ByteArray→Bool} {W W':World} {f':ByteArray→Option Value} (h:ClcS w ce b p n m c B W) (hl:b<w.heap.size∧p<w.heap.size∧b≠p) (hm:MapF W' b n' f') (hf:CntF f' c') (k:Kept (fun q=>q=b) W W'):ClcS w ce b p n' m c' B W':=
 ⟨⟨h.r.kp.trans (k.mono (fun _ _ e=>Or.inl e)),⟨f',hm,hf⟩,h.r.into.kept k (fun e=>hl.2.2 e.symm)⟩,h.a.kept k (fun e=>by omega)⟩
theorem clc_one {op:Int} {nm:ByteArray} {N:Int} {ty:Ty} {ks:List Tm} (IH:∀ u,u∈ks→ClcC u) (hkn:ks.length≤1000000) (h20:op=20→ks=[]) (hnz:nm.size≤maxLen):ClcC (.mk op nm N ty ks):=by
 intro B c w ok tk kk b n p m h1 h2 hb hp hbp hok hn hm hc
 have h1:TyL ok w ty.kids tk:=h1
 have h2:TmL ok w ks kk:=h2
 obtain⟨a,an,ac,rfl⟩:=h1.slice
 obtain⟨ma,mn,mc,rfl⟩:=h2.slice
 change Calls Tryz.prog 138 #[.agg #[.int .i64 op,.string nm,.int .i64 N,.int .i64 ty.kind,.string ty.name,.slice a an ac,.slice ma mn mc],.map (some b),.map (some p)] w _
 obtain rfl:mn=ks.length:=h2.len
 have K0:Kept (fun _=>False) w (w.alloc (.cells #[.int .i64 op,.string nm,.int .i64 N,.int .i64 ty.kind,.string ty.name,.slice a an ac,.slice ma ks.length mc] 28)):=kR.alloc _
 have S1:Hid (ClcS w [Value.int .i64 op,.string nm,.int .i64 N,.int .i64 ty.kind,.string ty.name,.slice a an ac,.slice ma ks.length mc] b p n m c B (w.alloc (.cells #[.int .i64 op,.string nm,.int .i64 N,.int .i64 ty.kind,.string ty.name,.slice a an ac,.slice ma ks.length mc] 28))):=Ld (by
  obtain⟨f,hb1,hb2⟩:=hb
  exact⟨⟨K0.mono (fun _ _ e=>e.elim),⟨f,hb1.kept K0 (fun e=>e),hb2⟩,hp.kept K0 (fun e=>e)⟩,Blk.new w 28 _⟩)
 have HAT:=Ld (fun W (k:Kept (fun q=>q=b∨q=p) w W)=>(h2.frame (Same.of_kept k (fun q hq e=>by rcases e with e | e;exact (hok q hq).1 e;exact (hok q hq).2 e))).at)
 have hpl:p<w.heap.size:=hp.lt
 have hbl:b<w.heap.size:=by obtain⟨f,hb1,_⟩:=hb;exact hb1.lt
 have LB:Hid (b<w.heap.size∧p<w.heap.size∧b≠p):=Ld ⟨hbl,hpl,hbp⟩
 have HOK:=Ld hok
 have HIH:=Ld IH
 have HKN:=Ld hkn
 have HN0:Hid (n+2*tmNs ks+2≤n+2*tmN (.mk op nm N ty ks)∧m+tmNs ks+1≤m+tmN (.mk op nm N ty ks)):=Ld (by rw[tmN];omega)
 have HNB:=Ld hn
 have HMB:=Ld hm
 have HNZ:=Ld hnz
 have HCB:Hid (∀ s,c s+tmDs ks+1≤1000000):=Ld (fun s=>by have:=hc s;rw[tmD] at this;omega)
 obtain⟨Bf0,hBf0⟩:∃ Bf:ByteArray→Bool,Bf=fun s=>B s||(mb s (fr (.mk op nm N ty ks))&&decide (c s=0)):=⟨_,rfl⟩
 rw[← hBf0]
 have HBF:Hid (∀ B1:ByteArray→Bool,(∀ s,B1 s=(B s||(decide (op=20)&&decide (c nm=0)&&decide (s=nm))))→∀ s,Bf0 s=(B1 s||(mb s (frs (binderB op) nm 0 (ks.drop 0))&&decide (c s=0)))):=Ld (fun B1 hB1 s=>by
  rw[hBf0]
  show (B s||(mb s (fr (.mk op nm N ty ks))&&decide (c s=0)))=_
  rw[hB1,fr]
  by_cases ho:op=20
  ·rw[if_pos ho,h20 ho]
   have e1:mb s [nm]=decide (s=nm):=by unfold mb;simp;exact⟨fun h=>h.symm,fun h=>h.symm⟩
   have e2:mb s (frs (binderB op) nm 0 (([]:List Tm).drop 0))=false:=by simp[frs,mb]
   rw[e1,e2]
   by_cases hs:s=nm
   ·subst hs;simp[ho]
   ·simp[hs]
  ·rw[if_neg ho];simp[ho])
 clear h1 h2 hb hp hok hn hm hc IH hkn h20 hnz hbp hpl hbl K0 hBf0
 go_enter Tryz.func138,Tryz.ntmps138
 go_upto_region 1 with (fail)
 generalize w.alloc (.cells #[.int .i64 op,.string nm,.int .i64 N,.int .i64 ty.kind,.string ty.name,.slice a an ac,.slice ma ks.length mc] 28)=w1 at *
 obtain⟨f1,hb1,hf1⟩:=S1.out.r.bo
 have hlk:=hb1.look u95 (z3 _) HNZ.out
 rw[hf1 nm] at hlk
 have gA:=S1.out.a.cell
 clear hf1 hb1
 go_cut [18] (fun v wc=>v=.bool (decide (op=20)&&decide (c nm=0))∧wc=w1)
 case first=>
  have hcn:((c nm:Int)=0)↔c nm=0:=by omega
  by_cases ho:op=20
  ·subst ho
   by_cases hc0:c nm=0
   ·have hc1:((c nm:Int)==0)=true:=by simp[hc0]
    have hc2:decide (c nm=0)=true:=by simp[hc0]
    go_wp2_with fail
    go_meet
    case rel=>exact⟨by simp[hc0],rfl⟩
   ·have hc1:((c nm:Int)==0)=false:=by simp;exact hc0
    go_wp2_with fail
    go_meet
    case rel=>exact⟨by simp[hc0],rfl⟩
  ·have ho1:(op==20)=false:=by simp[ho]
   go_wp2_with fail
   go_meet
   case rel=>exact⟨by simp[ho],rfl⟩
 case rest=>
  obtain⟨rfl,rfl⟩:=hcut
  clear hlk
  generalize (decide (op=20)&&decide (c nm=0))=q0 at *
  go_upto_if 18 with (fail)
  go_cut [] (fun wd=>∃ B1,ClcS w [Value.int .i64 op,.string nm,.int .i64 N,.int .i64 ty.kind,.string ty.name,.slice a an ac,.slice ma ks.length mc] b p n (m+1) c B1 wd∧∀ s,Bf0 s=(B1 s||(mb s (frs (binderB op) nm 0 (ks.drop 0))&&decide (c s=0))))
  case first=>
   cases q0
   ·have HB1:=Ld (HBF.out B (fun s=>by simp))
    go_wp2_with fail
    go_meet
    case rel=>exact⟨B,⟨⟨S1.out.r.kp,S1.out.r.bo,S1.out.r.into.mono (Nat.le_succ _)⟩,S1.out.a⟩,HB1.out⟩
   ·have HB1:=Ld (HBF.out (fun s=>B s||decide (s=nm)) (fun s=>by simp))
    have HMM:Hid (m<maxLen):=Ld (by have:=HMB.out;unfold maxLen;omega)
    go_wp2_with (at_mapUpdate;refine wpList_storeF rfl _ _ _ _ 4 rfl u90 rfl S1.out.r.into nm rfl HNZ.out HMM.out (.bool true) rfl ?_;intro w2 hm2 k2)
    rw[bagF_upd] at hm2
    have S2:Hid (ClcS w [Value.int .i64 op,.string nm,.int .i64 N,.int .i64 ty.kind,.string ty.name,.slice a an ac,.slice ma ks.length mc] b p n (m+1) c (fun s=>B s||decide (s=nm)) w2):=Ld (by
     obtain⟨f,hb1,hb2⟩:=S1.out.r.bo
     exact⟨⟨S1.out.r.kp.trans (k2.mono (fun x _ e=>Or.inr e)),⟨f,hb1.kept k2 (fun e=>LB.out.2.2 e),hb2⟩,hm2⟩,S1.out.a.kept k2 (fun e=>by have:=LB.out.2.1;omega)⟩)
    clear hm2 k2
    go_wp2_with fail
    go_meet
    case rel=>exact⟨_,S2.out,HB1.out⟩
  case rest=>
   obtain⟨B1,hS2,hB1⟩:=hcut
   have S2:=Ld hS2
   have HB1:=Ld hB1
   clear S1 hS2 hB1 HBF gA
   generalize wc=w2 at *
   have gA:=S2.out.a.cell
   go_wp2_with fail
   go_loopw [25] (fun i wr=>∃ (k n' m':Nat) (B':ByteArray→Bool),k≤ks.length∧i=.int .i64 k∧ClcS w [Value.int .i64 op,.string nm,.int .i64 N,.int .i64 ty.kind,.string ty.name,.slice a an ac,.slice ma ks.length mc] b p n' m' c B' wr∧Hid (∀ s,Bf0 s=(B' s||(mb s (frs (binderB op) nm k (ks.drop k))&&decide (c s=0))))∧Hid (n'+2*tmNs (ks.drop k)+(if k≤1 then 2 else 0)≤n+2*tmN (.mk op nm N ty ks))∧Hid (m'+tmNs (ks.drop k)≤m+tmN (.mk op nm N ty ks))) (fun i _=>ks.length-(intOf i).toNat)
   case atStart=>exact⟨0,n,m+1,B1,Nat.zero_le _,rfl,S2.out,Ld HB1.out,Ld (by have:=HN0.out.1;simpa using this),Ld (by have:=HN0.out.2;simp;omega)⟩
   case round=>
    obtain⟨k,n',m',B',hkl,rfl,hS,hq,hn',hm'⟩:=hrel
    have S:=Ld hS
    clear hS S2 gA
    by_cases hlt:k<ks.length
    ·have i1:(k:Int)<(ks.length:Int):=by omega
     have i2:(k:Int)<1000000:=by have:=HKN.out;omega
     obtain⟨q1,o1,ta,tn,tc,pa,pn,pc,rfl,hq1,lq,hC,hkt,hkm⟩:=HAT.out wr S.out.r.kp k hlt
     have HD:=Ld (fun s=>frs_drop (bi:=binderB op) (nm:=nm) hlt s)
     obtain⟨c0,c1,c2,c3,c4,c5,c6⟩:=hC
     have KR:Kept (fun _=>False) wr (wr.alloc (.cells #[.int .i64 ks[k].op,.string ks[k].name,.int .i64 ks[k].n,.int .i64 ks[k].ty.kind,.string ks[k].ty.name,.slice ta tn tc,.slice pa pn pc] 28)):=kR.alloc _
     have S3:=Ld (S.out.kept KR)
     have bK:=Ld (Blk.new wr 28 [.int .i64 ks[k].op,.string ks[k].name,.int .i64 ks[k].n,.int .i64 ks[k].ty.kind,.string ks[k].ty.name,.slice ta tn tc,.slice pa pn pc])
     change Hid (Blk (wr.alloc (.cells #[.int .i64 ks[k].op,.string ks[k].name,.int .i64 ks[k].n,.int .i64 ks[k].ty.kind,.string ks[k].ty.name,.slice ta tn tc,.slice pa pn pc] 28)) _ _ _) at bK
     have HKT:=Ld (fun W (kw:Kept (fun q=>q=b∨q=p) wr W)=>hkt.frame (Same.of_kept kw (fun q hq e=>by rcases e with e | e;exact (HOK.out q hq).1 e;exact (HOK.out q hq).2 e)))
     have HKM:=Ld (fun W (kw:Kept (fun q=>q=b∨q=p) wr W)=>hkm.frame (Same.of_kept kw (fun q hq e=>by rcases e with e | e;exact (HOK.out q hq).1 e;exact (HOK.out q hq).2 e)))
     have KR2:Hid (Kept (fun q=>q=b∨q=p) wr (wr.alloc (.cells #[.int .i64 ks[k].op,.string ks[k].name,.int .i64 ks[k].n,.int .i64 ks[k].ty.kind,.string ks[k].ty.name,.slice ta tn tc,.slice pa pn pc] 28))):=Ld (KR.mono (fun _ _ e=>e.elim))
     have LBR:Hid (b<wr.heap.size∧p<wr.heap.size):=Ld ⟨by have:=LB.out.1;have:=S.out.r.kp.size;omega,by have:=LB.out.2.1;have:=S.out.r.kp.size;omega⟩
     have HK1:=Ld (fun W Bk ck kw nk mk hb hp hn hm hc=>HIH.out _ (List.getElem_mem hlt) Bk ck W ok _ _ b nk p mk (HKT.out W kw) (HKM.out W kw) hb hp LB.out.2.2 HOK.out hn hm hc)
     unfold tmVal at HK1
     have HDM:Hid (tmD ks[k]≤tmDs ks∧tmNs (ks.drop k)=tmN ks[k]+tmNs (ks.drop (k+1))∧1≤tmN ks[k]):=Ld ⟨kid_dn (List.getElem_mem hlt),by rw[List.drop_eq_getElem_cons hlt,tmNs],by cases ks[k] with | mk=>rw[tmN];omega⟩
     clear hkt hkm KR
     generalize ks[k]=u at *
     go_upto_region 6 with (fail)
     clear c0 c1 c2 c3 c4 c5 c6
     have hwr:(wr.alloc (.cells #[.int .i64 u.op,.string u.name,.int .i64 u.n,.int .i64 u.ty.kind,.string u.ty.name,.slice ta tn tc,.slice pa pn pc] 28)).heap.size=wr.heap.size+1:=World.size_alloc _ _
     generalize wr.alloc (.cells #[.int .i64 u.op,.string u.name,.int .i64 u.n,.int .i64 u.ty.kind,.string u.ty.name,.slice ta tn tc,.slice pa pn pc] 28)=w3 at *
     have gA:=S3.out.a.cell
     have HI:Hid ((binderB op&&k==1)=true→∀ s,Bf0 s=((B' s||(mb s (fr u)&&decide ((if s=nm then c nm+1 else c s)=0)))||(mb s (frs (binderB op) nm (k+1) (ks.drop (k+1)))&&decide (c s=0)))):=Ld (fun hin s=>by
      rw[hq.out,HD.out,hin]
      by_cases hs:s=nm
      ·subst hs;simp
      ·simp[hs]
       cases B' s <;> cases mb s (fr u) <;> cases mb s (frs (binderB op) nm (k+1) (ks.drop (k+1))) <;> cases decide (c s=0) <;> rfl)
     have HJ:Hid ((binderB op&&k==1)=false→∀ s,Bf0 s=((B' s||(mb s (fr u)&&decide (c s=0)))||(mb s (frs (binderB op) nm (k+1) (ks.drop (k+1)))&&decide (c s=0)))):=Ld (fun hin s=>by
      rw[hq.out,HD.out,hin]
      simp
      cases B' s <;> cases mb s (fr u) <;> cases mb s (frs (binderB op) nm (k+1) (ks.drop (k+1))) <;> cases decide (c s=0) <;> rfl)
     clear hq HD
     go_cut [8] (fun v wc=>v=.bool (binderB op&&k==1)∧wc=w3)
     case first=>
      by_cases hk1:k=1
      ·have hk2:((k:Int)==1)=true:=by simp;omega
       have hk3:(k==1)=true:=by simp[hk1]
       clear hk1
       go_wp2_with fail
       refine (binder_any op _).mono ?_
       rintro e w3' ⟨rfl,rfl⟩
       cases hbo:binderB op
       all_goals
        go_wp2_with fail
        go_meet
        case rel=>exact⟨by rw[hk3,hbo];rfl,rfl⟩
      ·have hk2:((k:Int)==1)=false:=by simp;omega
       have hk3:(k==1)=false:=by simp[hk1]
       clear hk1
       go_wp2_with fail
       refine (binder_any op _).mono ?_
       rintro e w3' ⟨rfl,rfl⟩
       cases hbo:binderB op
       all_goals
        go_wp2_with fail
        go_meet
        case rel=>exact⟨by rw[hk3,hbo];rfl,rfl⟩
     case rest=>
      obtain⟨rfl,rfl⟩:=hcut
      have hq1':=HOK.out q1 hq1
      have HNM:Hid (n'+2*tmN u+(if k≤1 then 2 else 0)≤1000000∧m'+tmN u≤1000000∧(n'+2*tmN u+2*tmNs (ks.drop (k+1))+(if k≤1 then 2 else 0)≤n+2*tmN (.mk op nm N ty ks))∧(m'+tmN u+tmNs (ks.drop (k+1))≤m+tmN (.mk op nm N ty ks))):=Ld (by
       have h1:=hn'.out;have h2:=hm'.out;have h3:=HDM.out.2.1;have h4:=HNB.out;have h5:=HMB.out
       rw[h3] at h1 h2
       omega)
      clear hq1' hn' hm'
      cases hin:(binderB op&&k==1)
      ·have HJ2:=Ld (HJ.out hin)
       clear HI HJ hin
       have HC:=Ld (HK1.out wc B' c KR2.out n' m' S3.out.r.bo S3.out.r.into (by have:=HNM.out.1;omega) HNM.out.2.1 (fun s=>by have:=HCB.out s;have:=HDM.out.1;omega))
       have gK:=bK.out.cell
       clear gA
       go_wp2_with fail
       clear gK
       refine HC.out.mono ?_
       rintro e w5 ⟨rfl,hR5⟩
       have S5:=Ld (S3.out.step LB.out hR5)
       clear hR5 HC S3 S bK HK1 KR2
       go_wp2_with fail
       go_roundw
       case rel=>exact⟨k+1,_,_,_,by omega,by go_num,S5.out,HJ2,Ld (by have:=HNM.out.2.2.1;split <;> split at this <;> omega),Ld HNM.out.2.2.2⟩
       case measure=>simp[intOf];omega
      ·have HI2:=Ld (HI.out hin)
       have hk1:k=1:=by
        rw[Bool.and_eq_true] at hin
        simpa using hin.2
       clear HI HJ hin
       obtain⟨f3,hb3,hf3⟩:=S3.out.r.bo
       have HF3:=Ld hf3
       have HNX:Hid (n'+2+2*tmN u+2*tmNs (ks.drop (k+1))≤n+2*tmN (.mk op nm N ty ks)∧n'+2+2*tmN u≤1000000):=Ld (by have h1:=HNM.out.2.2.1;have h2:=HNM.out.1;rw[if_pos (by omega)] at h1 h2;omega)
       have HK1E:=Ld hk1
       clear hk1
       have hlk:=hb3.look u95 (z3 _) HNZ.out
       rw[hf3 nm] at hlk
       have HW1:Hid (wrap64 ((c nm:Int)+1)=((c nm+1:Nat):Int)):=Ld (by have:=HCB.out nm;unfold wrap64;omega)
       have HB3:=Ld hb3
       have HLX:Hid (n'<maxLen∧n'+1+2*tmN u<maxLen):=Ld (by have:=HNX.out.2;unfold maxLen;omega)
       clear hf3 hb3
       go_upto_region 9 with (at_mapUpdate;refine wpList_storeF rfl _ _ _ _ 3 rfl u95 rfl HB3.out nm rfl HNZ.out HLX.out.1 (.int .i64 (wrap64 ((c nm:Int)+1))) rfl ?_;intro w4 hm4 k4)
       rw[HW1.out] at hm4
       have S4:=Ld (S3.out.cnt LB.out hm4 (HF3.out.upd nm (c nm+1)) k4)
       have bK4:=Ld (bK.out.kept k4 (fun e=>by have:=LBR.out.1;omega))
       have HC:=Ld (HK1.out w4 B' (fun t=>if t=nm then c nm+1 else c t) (KR2.out.trans (k4.mono (fun _ _ e=>Or.inl e))) (n'+1) m' S4.out.r.bo S4.out.r.into (by have:=HNX.out.2;omega) HNM.out.2.1 (fun s=>by have h1:=HCB.out s;have h2:=HCB.out nm;have:=HDM.out.1;show (if s=nm then c nm+1 else c s)+_≤_;split <;> omega))
       have gK:=bK4.out.cell
       clear hm4 k4 hlk HW1 HB3 HF3 S3 gA bK
       go_wp2_with fail
       clear gK
       refine HC.out.mono ?_
       rintro e w5 ⟨rfl,hR5⟩
       have S5:=Ld (S4.out.step LB.out hR5)
       clear hR5 HC S4 S bK4 HK1 KR2
       obtain⟨f5,hb5,hf5⟩:=S5.out.r.bo
       have HF5:=Ld hf5
       have hlk:=hb5.look u95 (z3 _) HNZ.out
       rw[hf5 nm] at hlk
       simp only[if_true] at hlk
       have HW1:Hid (wrap64 (c nm:Int)=(c nm:Int)):=Ld (by have:=HCB.out nm;unfold wrap64;omega)
       have HB5:=Ld hb5
       have gA:=S5.out.a.cell
       clear hf5 hb5
       go_wp2_with (at_mapUpdate;refine wpList_storeF rfl _ _ _ _ 3 rfl u95 rfl HB5.out nm rfl HNZ.out HLX.out.2 (.int .i64 (wrap64 (c nm:Int))) rfl ?_;intro w6 hm6 k6;clear gA hlk)
       rw[HW1.out] at hm6
       have S6:=Ld (S5.out.cnt LB.out hm6 (HF5.out.upd nm (c nm)) k6)
       have HCE:Hid ((fun t=>if t=nm then c nm else if t=nm then c nm+1 else c t)=c):=Ld (by funext t;by_cases ht:t=nm <;> simp[ht])
       rw[HCE.out] at S6
       clear hm6 k6 HW1 HB5 HF5 S5
       go_wp2_with fail
       go_roundw
       case rel=>exact⟨k+1,_,_,_,by omega,by go_num,S6.out,HI2,Ld (by have:=HNX.out.1;have:=HK1E.out;rw[if_neg (by omega)];omega),Ld HNM.out.2.2.2⟩
       case measure=>simp[intOf];omega
    ·have hkk:k=ks.length:=by omega
     subst hkk
     have HEQ:Hid (Bf0=B'):=Ld (by funext s;rw[hq.out,List.drop_length];simp[frs,mb])
     have gA:=S.out.a.cell
     go_wp2_with fail
     go_end0
     refine⟨rfl,S.out.r.kp,?_,?_⟩
     ·obtain⟨f,hb1,hb2⟩:=S.out.r.bo
      exact⟨f,hb1.mono (by have:=hn'.out;omega),hb2⟩
     ·rw[HEQ.out];exact S.out.r.into.mono (by have:=hm'.out;omega)
theorem clc_any {t:Tm} (h:OkTm t):ClcC t:=by
 induction h with
 | mk hf hn hl ih=>
  rename_i op nm N ty ks
  refine clc_one ih (by omega) (fun h=>?_) (by have:=(formed_sm hf).1;unfold maxLen;omega)
  subst h
  have h1:=(OkTm.mk hf hn hl).nw
  cases h1 with
  | mk h2 _=>exact (h2 rfl).2.2
theorem cgB_upd (names:List ByteArray) (c:ByteArray→Nat) (nm:ByteArray):cgB names (fun t=>if t=nm then c nm+1 else c t)=(cgB names c||mb nm names):=by
 rw[Bool.eq_iff_iff,Bool.or_eq_true,mb_iff]
 unfold cgB
 rw[List.any_eq_true,List.any_eq_true]
 constructor
 ·rintro⟨s,h1,h2⟩
  have h3:0<(if s=nm then c nm+1 else c s):=of_decide_eq_true h2
  by_cases e:s=nm
  ·exact Or.inr (e ▸ h1)
  ·rw[if_neg e] at h3;exact Or.inl ⟨s,h1,decide_eq_true h3⟩
 ·rintro (⟨s,h1,h2⟩ | h)
  ·have h3:=of_decide_eq_true h2
   refine⟨s,h1,decide_eq_true (?_:0<(if s=nm then c nm+1 else c s))⟩
   split <;> omega
  ·refine⟨nm,h,decide_eq_true (?_:0<(if nm=nm then c nm+1 else c nm))⟩
   rw[if_pos rfl];omega
def OcsC (t:Tm):Prop:=∀ (fm tu:Tm) (names:List ByteArray) (c:ByteArray→Nat) (w:World) (ok okf:Nat→Prop) (tk kk fk fkk uk ukk:Value) (R fB tB b nf n:Nat) (cnt:Int),TyL ok w t.ty.kids tk→TmL ok w t.kids kk→TyL okf w fm.ty.kids fk→TmL okf w fm.kids fkk →
 Blk w R 93 (rpCells fm tu fk fkk uk ukk fB tB cnt)→MapF w fB nf (bagF (fun s=>mb s names))→(∃ f,MapF w b n f∧CntF f c)→b≠fB→b≠R→(∀ q,ok q→q≠b)→(∀ q,okf q→q≠b)→n+2*tmN t≤1000000000000→(∀ s,c s+tmD t≤900000) →
 Calls Tryz.prog 140 #[.pointer (some ⟨R,0,none⟩),tmVal t tk kk,.map (some b)] w fun e w'=>e=.returned (.bool (!cgB names c&&occT fm names t))∧Kept (fun q=>q=b) w w'∧∃ f,MapF w' b (n+2*tmN t) f∧CntF f c
structure OcsS (w:World) (ce:List Value) (b n:Nat) (c:ByteArray→Nat) (W:World):Prop where
 kp:Kept (fun q=>q=b) w W
 bo:∃ f,MapF W b n f∧CntF f c
 a:Blk W w.heap.size 28 ce
theorem OcsS.kept {w:World} {ce:List Value} {b n:Nat} {c:ByteArray→Nat} {W W':World} (h:OcsS w ce b n c W) (k:Kept (fun _=>False) W W'):OcsS w ce b n c W':=by
 obtain⟨h1,⟨f,h2,h3⟩,h5⟩:=h
 exact⟨h1.trans (k.mono (fun _ _ e=>e.elim)),⟨f,h2.kept k (fun e=>e),h3⟩,h5.kept k (fun e=>e)⟩
theorem OcsS.step {w:World} {ce:List Value} {b n n':Nat} {c c':ByteArray→Nat} {W W':World} (h:OcsS w ce b n c W) (hl:b<w.heap.size) (k:Kept (fun q=>q=b) W W') (hm:∃ f,MapF W' b n' f∧CntF f c'):OcsS w ce b n' c' W':=
 ⟨h.kp.trans k,hm,h.a.kept k (fun e=>by omega)⟩
theorem ocs_one {op:Int} {nm:ByteArray} {N:Int} {ty:Ty} {ks:List Tm} (hbd:BdTm (.mk op nm N ty ks)) (IH:∀ u,u∈ks→OcsC u) (hkn:ks.length≤1000000) (hnz:nm.size≤maxLen):OcsC (.mk op nm N ty ks):=by
 intro fm tu names c w ok okf tk kk fk fkk uk ukk R fB tB b nf n cnt h1 h2 h3 h4 hR hF hb hbf hbR hok hokf hn hc
 have h1:TyL ok w ty.kids tk:=h1
 have h2:TmL ok w ks kk:=h2
 obtain⟨a,an,ac,rfl⟩:=h1.slice
 obtain⟨ma,mn,mc,rfl⟩:=h2.slice
 change Calls Tryz.prog 140 #[.pointer (some ⟨R,0,none⟩),.agg #[.int .i64 op,.string nm,.int .i64 N,.int .i64 ty.kind,.string ty.name,.slice a an ac,.slice ma mn mc],.map (some b)] w _
 obtain rfl:mn=ks.length:=h2.len
 have K0:Kept (fun _=>False) w (w.alloc (.cells #[.int .i64 op,.string nm,.int .i64 N,.int .i64 ty.kind,.string ty.name,.slice a an ac,.slice ma ks.length mc] 28)):=kR.alloc _
 have S1:Hid (OcsS w [Value.int .i64 op,.string nm,.int .i64 N,.int .i64 ty.kind,.string ty.name,.slice a an ac,.slice ma ks.length mc] b n c (w.alloc (.cells #[.int .i64 op,.string nm,.int .i64 N,.int .i64 ty.kind,.string ty.name,.slice a an ac,.slice ma ks.length mc] 28))):=Ld (by
  obtain⟨f,hb1,hb2⟩:=hb
  exact⟨K0.mono (fun _ _ e=>e.elim),⟨f,hb1.kept K0 (fun e=>e),hb2⟩,Blk.new w 28 _⟩)
 have HAT:=Ld (fun W (k:Kept (fun q=>q=b) w W)=>(h2.frame (Same.of_kept k (fun q hq e=>hok q hq e))).at)
 have HFR:=Ld (fun W (k:Kept (fun q=>q=b) w W)=>(⟨h3.frame (Same.of_kept k (fun q hq e=>hokf q hq e)),h4.frame (Same.of_kept k (fun q hq e=>hokf q hq e)),hR.kept k (fun e=>hbR e.symm),hF.kept k (fun e=>hbf e.symm)⟩:TyL okf W fm.ty.kids fk∧TmL okf W fm.kids fkk∧Blk W R 93 (rpCells fm tu fk fkk uk ukk fB tB cnt)∧MapF W fB nf (bagF (fun s=>mb s names))))
 have hbl:b<w.heap.size:=by obtain⟨f,hb1,_⟩:=hb;exact hb1.lt
 have LB:=Ld hbl
 have HOK:=Ld hok
 have HOKF:=Ld hokf
 have HNE:=Ld (And.intro hbf hbR)
 have HIH:=Ld IH
 have HKN:=Ld hkn
 have HN0:Hid (n+2*tmNs ks+2≤n+2*tmN (.mk op nm N ty ks)):=Ld (by rw[tmN];omega)
 have HNB:=Ld hn
 have HNZ:=Ld hnz
 have HCB:Hid (∀ s,c s+tmDs ks+1≤900000):=Ld (fun s=>by have:=hc s;rw[tmD] at this;omega)
 have HHR:=Ld (fun W (kw:Kept (fun q=>q=b) w W) (hm:∃ f,MapF W b n f∧CntF f c)=>here_any (ok:=ok) (t:=.mk op nm N ty ks) hbd (by have:=hc nm;omega) (h1.frame (Same.of_kept kw (fun q hq e=>hok q hq e))) (h2.frame (Same.of_kept kw (fun q hq e=>hok q hq e))) (HFR.out W kw).1 (HFR.out W kw).2.1 (HFR.out W kw).2.2.1 (HFR.out W kw).2.2.2 hm)
 unfold tmVal at HHR
 obtain⟨rb,hrb⟩:∃ rb:Bool,rb=(!cgB names c&&occT fm names (.mk op nm N ty ks)):=⟨_,rfl⟩
 rw[← hrb]
 obtain⟨hr,hhr⟩:∃ hr:Bool,hr=(!cgB names c&&alikeT (.mk op nm N ty ks) fm [] []):=⟨_,rfl⟩
 rw[← hhr] at HHR
 have HRB:Hid (rb=(hr||(!cgB names c&&occK fm names (binderB op) nm 0 (ks.drop 0)))):=Ld (by
  rw[hrb,hhr,occT,List.drop_zero]
  cases cgB names c <;> rfl)
 clear h1 h2 h3 h4 hR hF hb hbf hbR hok hokf IH hkn hnz hbl K0 hn hc hrb hhr hbd
 change Hid (∀ W (kw:Kept (fun q=>q=b) w W) (hm:∃ f,MapF W b n f∧CntF f c),Calls Tryz.prog 139 #[.pointer (some ⟨R,0,none⟩),.agg #[.int .i64 op,.string nm,.int .i64 N,.int .i64 ty.kind,.string ty.name,.slice a an ac,.slice ma ks.length mc],.map (some b)] W fun e w'=>e=.returned (.bool hr)∧Kept (fun _=>False) W w') at HHR
 go_enter Tryz.func140,Tryz.ntmps140
 go_upto_region 1 with (fail)
 generalize w.alloc (.cells #[.int .i64 op,.string nm,.int .i64 N,.int .i64 ty.kind,.string ty.name,.slice a an ac,.slice ma ks.length mc] 28)=w1 at *
 have gA:=S1.out.a.cell
 have HC:=Ld (HHR.out w1 S1.out.kp S1.out.bo)
 clear HHR
 go_wp2_with fail
 refine HC.out.mono ?_
 rintro e w2 ⟨rfl,k2⟩
 have S2:=Ld (S1.out.kept k2)
 clear k2 HC S1 gA
 cases hr
 case true=>
  go_wp2_with fail
  go_ret
  obtain⟨f,hb1,hb2⟩:=S2.out.bo
  exact⟨by rw[HRB.out];rfl,S2.out.kp,f,hb1.mono (by omega),hb2⟩
 case false=>
  have gA:=S2.out.a.cell
  go_wp2_with fail
  go_loopw [18] (fun i wr=>∃ (k n':Nat),k≤ks.length∧i=.int .i64 k∧OcsS w [Value.int .i64 op,.string nm,.int .i64 N,.int .i64 ty.kind,.string ty.name,.slice a an ac,.slice ma ks.length mc] b n' c wr∧Hid (rb=(!cgB names c&&occK fm names (binderB op) nm k (ks.drop k)))∧Hid (n'+2*tmNs (ks.drop k)+(if k≤1 then 2 else 0)≤n+2*tmN (.mk op nm N ty ks))) (fun i _=>ks.length-(intOf i).toNat)
  case atStart=>exact⟨0,n,Nat.zero_le _,rfl,S2.out,Ld (by rw[HRB.out];rfl),Ld (by have:=HN0.out;simpa using this)⟩
  case round=>
   obtain⟨k,n',hkl,rfl,hS,hq,hn'⟩:=hrel
   have S:=Ld hS
   clear hS S2 gA HRB
   by_cases hlt:k<ks.length
   ·have i1:(k:Int)<(ks.length:Int):=by omega
    have i2:(k:Int)<1000000:=by have:=HKN.out;omega
    obtain⟨q1,o1,ta,tn,tc,pa,pn,pc,rfl,hq1,lq,hC,hkt,hkm⟩:=HAT.out wr S.out.kp k hlt
    obtain⟨c0,c1,c2,c3,c4,c5,c6⟩:=hC
    have KR:Kept (fun _=>False) wr (wr.alloc (.cells #[.int .i64 ks[k].op,.string ks[k].name,.int .i64 ks[k].n,.int .i64 ks[k].ty.kind,.string ks[k].ty.name,.slice ta tn tc,.slice pa pn pc] 28)):=kR.alloc _
    have S3:=Ld (S.out.kept KR)
    have bK:=Ld (Blk.new wr 28 [.int .i64 ks[k].op,.string ks[k].name,.int .i64 ks[k].n,.int .i64 ks[k].ty.kind,.string ks[k].ty.name,.slice ta tn tc,.slice pa pn pc])
    change Hid (Blk (wr.alloc (.cells #[.int .i64 ks[k].op,.string ks[k].name,.int .i64 ks[k].n,.int .i64 ks[k].ty.kind,.string ks[k].ty.name,.slice ta tn tc,.slice pa pn pc] 28)) _ _ _) at bK
    have HKT:=Ld (fun W (kw:Kept (fun q=>q=b) wr W)=>hkt.frame (Same.of_kept kw (fun q hq e=>HOK.out q hq e)))
    have HKM:=Ld (fun W (kw:Kept (fun q=>q=b) wr W)=>hkm.frame (Same.of_kept kw (fun q hq e=>HOK.out q hq e)))
    have KR2:Hid (Kept (fun q=>q=b) wr (wr.alloc (.cells #[.int .i64 ks[k].op,.string ks[k].name,.int .i64 ks[k].n,.int .i64 ks[k].ty.kind,.string ks[k].ty.name,.slice ta tn tc,.slice pa pn pc] 28))):=Ld (KR.mono (fun _ _ e=>e.elim))
    have LBR:Hid (b<wr.heap.size):=Ld (by have:=LB.out;have:=S.out.kp.size;omega)
    have HK1:=Ld (fun W ck kw nk hb hn hc=>HIH.out _ (List.getElem_mem hlt) fm tu names ck W ok okf _ _ fk fkk uk ukk R fB tB b nf nk cnt (HKT.out W kw) (HKM.out W kw) (HFR.out W (S.out.kp.trans kw)).1 (HFR.out W (S.out.kp.trans kw)).2.1 (HFR.out W (S.out.kp.trans kw)).2.2.1 (HFR.out W (S.out.kp.trans kw)).2.2.2 hb HNE.out.1 HNE.out.2 HOK.out HOKF.out hn hc)
    unfold tmVal at HK1
    have HDM:Hid (tmD ks[k]≤tmDs ks∧tmNs (ks.drop k)=tmN ks[k]+tmNs (ks.drop (k+1))∧1≤tmN ks[k]):=Ld ⟨kid_dn (List.getElem_mem hlt),by rw[List.drop_eq_getElem_cons hlt,tmNs],by cases ks[k] with | mk=>rw[tmN];omega⟩
    have HQ:Hid (rb=((!cgB names c&&(if binderB op&&k==1&&mb nm names then false else occT fm names ks[k]))||(!cgB names c&&occK fm names (binderB op) nm (k+1) (ks.drop (k+1))))):=Ld (by
     rw[hq.out,List.drop_eq_getElem_cons hlt,occK]
     cases cgB names c <;> rfl)
    clear hkt hkm KR hq
    generalize ks[k]=u at *
    go_upto_region 6 with (fail)
    clear c0 c1 c2 c3 c4 c5 c6
    have hwr:(wr.alloc (.cells #[.int .i64 u.op,.string u.name,.int .i64 u.n,.int .i64 u.ty.kind,.string u.ty.name,.slice ta tn tc,.slice pa pn pc] 28)).heap.size=wr.heap.size+1:=World.size_alloc _ _
    generalize wr.alloc (.cells #[.int .i64 u.op,.string u.name,.int .i64 u.n,.int .i64 u.ty.kind,.string u.ty.name,.slice ta tn tc,.slice pa pn pc] 28)=w3 at *
    have gA:=S3.out.a.cell
    go_cut [9] (fun v wc=>v=.bool (binderB op&&k==1)∧wc=w3)
    case first=>
     by_cases hk1:k=1
     ·have hk2:((k:Int)==1)=true:=by simp;omega
      have hk3:(k==1)=true:=by simp[hk1]
      clear hk1
      go_wp2_with fail
      refine (binder_any op _).mono ?_
      rintro e w3' ⟨rfl,rfl⟩
      cases hbo:binderB op
      all_goals
       go_wp2_with fail
       go_meet
       case rel=>exact⟨by rw[hk3,hbo];rfl,rfl⟩
     ·have hk2:((k:Int)==1)=false:=by simp;omega
      have hk3:(k==1)=false:=by simp[hk1]
      clear hk1
      go_wp2_with fail
      refine (binder_any op _).mono ?_
      rintro e w3' ⟨rfl,rfl⟩
      cases hbo:binderB op
      all_goals
       go_wp2_with fail
       go_meet
       case rel=>exact⟨by rw[hk3,hbo];rfl,rfl⟩
    case rest=>
     obtain⟨rfl,rfl⟩:=hcut
     have hq1':=HOK.out q1 hq1
     have HNM:Hid (n'+2*tmN u+(if k≤1 then 2 else 0)≤1000000000000∧(n'+2*tmN u+2*tmNs (ks.drop (k+1))+(if k≤1 then 2 else 0)≤n+2*tmN (.mk op nm N ty ks))):=Ld (by
      have h1:=hn'.out;have h3:=HDM.out.2.1;have h4:=HNB.out
      rw[h3] at h1
      omega)
     clear hq1' hn'
     cases hin:(binderB op&&k==1)
     ·have HQ2:Hid (rb=((!cgB names c&&occT fm names u)||(!cgB names c&&occK fm names (binderB op) nm (k+1) (ks.drop (k+1))))):=Ld (by rw[HQ.out,hin];rfl)
      have HC:=Ld (HK1.out wc c KR2.out n' S3.out.bo (by have:=HNM.out.1;omega) (fun s=>by have:=HCB.out s;have:=HDM.out.1;omega))
      clear HQ hin
      have gK:=bK.out.cell
      clear gA
      generalize (!cgB names c&&occT fm names u)=q0 at *
      go_wp2_with fail
      clear gK
      refine HC.out.mono ?_
      rintro e w5 ⟨rfl,k5,m5⟩
      have S5:=Ld (S3.out.step LB.out k5 m5)
      clear k5 m5 HC S3 S bK HK1 KR2
      cases q0
      ·go_wp2_with fail
       go_roundw
       case rel=>exact⟨k+1,_,by omega,by go_num,S5.out,Ld (by rw[HQ2.out];rfl),Ld (by have:=HNM.out.2;split <;> split at this <;> omega)⟩
       case measure=>simp[intOf];omega
      ·go_wp2_with fail
       go_ret
       obtain⟨f,hb1,hb2⟩:=S5.out.bo
       exact⟨by rw[HQ2.out];rfl,S5.out.kp,f,hb1.mono (by have:=HNM.out.2;omega),hb2⟩
     ·have hk1:k=1:=by
       rw[Bool.and_eq_true] at hin
       simpa using hin.2
      have HQ2:Hid (rb=((!cgB names (fun t=>if t=nm then c nm+1 else c t)&&occT fm names u)||(!cgB names c&&occK fm names (binderB op) nm (k+1) (ks.drop (k+1))))):=Ld (by rw[HQ.out,hin,cgB_upd];cases cgB names c <;> cases mb nm names <;> rfl)
      clear HQ hin
      obtain⟨f3,hb3,hf3⟩:=S3.out.bo
      have HF3:=Ld hf3
      have HNX:Hid (n'+2+2*tmN u+2*tmNs (ks.drop (k+1))≤n+2*tmN (.mk op nm N ty ks)∧n'+2+2*tmN u≤1000000000000):=Ld (by have h1:=HNM.out.2;have h2:=HNM.out.1;rw[if_pos (by omega)] at h1 h2;omega)
      have HK1E:=Ld hk1
      clear hk1
      have hlk:=hb3.look u95 (z3 _) HNZ.out
      rw[hf3 nm] at hlk
      have HW1:Hid (wrap64 ((c nm:Int)+1)=((c nm+1:Nat):Int)):=Ld (by have:=HCB.out nm;unfold wrap64;omega)
      have HB3:=Ld hb3
      have HLX:Hid (n'<maxLen∧n'+1+2*tmN u<maxLen):=Ld (by have:=HNX.out.2;unfold maxLen;omega)
      clear hf3 hb3
      go_upto_region 9 with (at_mapUpdate;refine wpList_storeF rfl _ _ _ _ 3 rfl u95 rfl HB3.out nm rfl HNZ.out HLX.out.1 (.int .i64 (wrap64 ((c nm:Int)+1))) rfl ?_;intro w4 hm4 k4)
      rw[HW1.out] at hm4
      have S4:=Ld (S3.out.step LB.out k4 ⟨_,hm4,HF3.out.upd nm (c nm+1)⟩)
      have bK4:=Ld (bK.out.kept k4 (fun e=>by have:=LBR.out;omega))
      have HC:=Ld (HK1.out w4 (fun t=>if t=nm then c nm+1 else c t) (KR2.out.trans k4) (n'+1) S4.out.bo (by have:=HNX.out.2;omega) (fun s=>by have h1:=HCB.out s;have h2:=HCB.out nm;have:=HDM.out.1;show (if s=nm then c nm+1 else c s)+_≤_;split <;> omega))
      have gK:=bK4.out.cell
      clear hm4 k4 hlk HW1 HB3 HF3 S3 gA bK
      generalize (!cgB names (fun t=>if t=nm then c nm+1 else c t)&&occT fm names u)=q0 at *
      go_wp2_with fail
      clear gK
      refine HC.out.mono ?_
      rintro e w5 ⟨rfl,k5,m5⟩
      have S5:=Ld (S4.out.step LB.out k5 m5)
      clear k5 m5 HC S4 S bK4 HK1 KR2
      obtain⟨f5,hb5,hf5⟩:=S5.out.bo
      have HF5:=Ld hf5
      have hlk:=hb5.look u95 (z3 _) HNZ.out
      rw[hf5 nm] at hlk
      simp only[if_true] at hlk
      have HW1:Hid (wrap64 (c nm:Int)=(c nm:Int)):=Ld (by have:=HCB.out nm;unfold wrap64;omega)
      have HB5:=Ld hb5
      have gA:=S5.out.a.cell
      clear hf5 hb5
      go_upto_region 12 with (at_mapUpdate;refine wpList_storeF rfl _ _ _ _ 3 rfl u95 rfl HB5.out nm rfl HNZ.out HLX.out.2 (.int .i64 (wrap64 (c nm:Int))) rfl ?_;intro w6 hm6 k6;clear gA hlk)
      rw[HW1.out] at hm6
      have S6:=Ld (S5.out.step LB.out k6 ⟨_,hm6,HF5.out.upd nm (c nm)⟩)
      have HCE:Hid ((fun t=>if t=nm then c nm else if t=nm then c nm+1 else c t)=c):=Ld (by funext t;by_cases ht:t=nm <;> simp[ht])
      rw[HCE.out] at S6
      clear hm6 k6 HW1 HB5 HF5 S5
      cases q0
      ·go_wp2_with fail
       go_roundw
       case rel=>exact⟨k+1,_,by omega,by go_num,S6.out,Ld (by rw[HQ2.out];rfl),Ld (by have:=HNX.out.1;have:=HK1E.out;rw[if_neg (by omega)];omega)⟩
       case measure=>simp[intOf];omega
      ·go_wp2_with fail
       go_ret
       obtain⟨f,hb1,hb2⟩:=S6.out.bo
       exact⟨by rw[HQ2.out];rfl,S6.out.kp,f,hb1.mono (by have:=HNX.out.1;omega),hb2⟩
   ·have hkk:k=ks.length:=by omega
    subst hkk
    have HEQ:Hid (rb=false):=Ld (by rw[hq.out,List.drop_length,occK,Bool.and_false])
    have gA:=S.out.a.cell
    go_wp2_with fail
    go_ret
    obtain⟨f,hb1,hb2⟩:=S.out.bo
    exact⟨by rw[HEQ.out];rfl,S.out.kp,f,hb1.mono (by have:=hn'.out;omega),hb2⟩
theorem ocs_any {t:Tm} (h:OkTm t):OcsC t:=by
 induction h with
 | mk hf hn hl ih=>exact ocs_one (ok_bd (.mk hf hn hl)) ih (by omega) (by have:=(formed_sm hf).1;unfold maxLen;omega)
mutual
theorem cnt_le (fm:Tm) (names:List ByteArray):∀ (t:Tm),cntT fm names t≤tmN t
 | .mk op nm N ty ks=>by
  rw[cntT,tmN]
  split
  ·omega
  ·have:=cntK_le fm names (binderB op) nm 0 ks;omega
theorem cntK_le (fm:Tm) (names:List ByteArray) (bi:Bool) (nm:ByteArray):∀ (i:Nat) (ks:List Tm),cntK fm names bi nm i ks≤tmNs ks
 | _,[]=>by rw[cntK];exact Nat.zero_le _
 | i,t::r=>by
  rw[cntK,tmNs]
  have h1:=cnt_le fm names t
  have h2:=cntK_le fm names bi nm (i+1) r
  split <;> omega
end
def wkT (fm tu:Tm) (f:Nat) (c:ByteArray→Nat) (t:Tm):Tm:=if cgB (fr fm) c then t else repF fm tu (fr fm) (fr tu) f t
def wkN (fm:Tm) (c:ByteArray→Nat) (t:Tm):Nat:=if cgB (fr fm) c then 0 else cntT fm (fr fm) t
def upC (c:ByteArray→Nat) (nm:ByteArray):ByteArray→Nat:=fun t=>if t=nm then c nm+1 else c t
theorem wkN_le (fm:Tm) (c:ByteArray→Nat) (t:Tm):wkN fm c t≤tmN t:=by
 unfold wkN
 split
 ·omega
 ·exact cnt_le _ _ _
section
variable {fm tu:Tm} {f:Nat} {c:ByteArray→Nat} {op:Int} {nm:ByteArray} {N:Int} {ty:Ty} {ks:List Tm}
theorem wk_hit (h:(!cgB (fr fm) c&&alikeT (.mk op nm N ty ks) fm [] [])=true):wkT fm tu (f+1) c (.mk op nm N ty ks)=tu∧wkN fm c (.mk op nm N ty ks)=1:=by
 rw[Bool.and_eq_true] at h
 unfold wkT wkN
 have h1:cgB (fr fm) c=false:=by simpa using h.1
 rw[h1,repF,cntT,if_pos h.2,if_pos h.2]
 exact⟨rfl,rfl⟩
theorem repK_map (g:Tm→Tm):∀ (i:Nat) (ks:List Tm),repK g false i ks=ks.map g
 | _,[]=>rfl
 | i,t::r=>by rw[repK,repK_map g (i+1) r];rfl
theorem wk_flat (hb:binderB op=false) (h:(!cgB (fr fm) c&&alikeT (.mk op nm N ty ks) fm [] [])=false):wkT fm tu (f+1) c (.mk op nm N ty ks)=.mk op nm N ty (ks.map (wkT fm tu f c))∧wkN fm c (.mk op nm N ty ks)=(ks.map (wkN fm c)).sum:=by
 unfold wkT wkN
 cases hc:cgB (fr fm) c
 ·rw[hc] at h
  have h2:alikeT (.mk op nm N ty ks) fm [] []=false:=by simpa using h
  refine⟨?_,?_⟩
  ·simp only[Bool.false_eq_true,if_false]
   rw[repF,if_neg (by rw[h2];exact Bool.false_ne_true),hb,if_neg Bool.false_ne_true,repK_map]
  ·simp only[Bool.false_eq_true,if_false]
   rw[cntT,if_neg (by rw[h2];exact Bool.false_ne_true),hb]
   have:∀ (i:Nat) (ks:List Tm),cntK fm (fr fm) false nm i ks=(ks.map (cntT fm (fr fm))).sum:=by
    intro i ks
    induction ks generalizing i with
    | nil=>rfl
    | cons t r ih=>rw[cntK,ih,List.map_cons,List.sum_cons];rfl
   exact this 0 ks
 ·refine⟨?_,?_⟩
  ·simp
  ·have h0:∀ ks:List Tm,(ks.map (fun _=>(0:Nat))).sum=0:=by
    intro ks
    induction ks with
    | nil=>rfl
    | cons t r ih=>rw[List.map_cons,List.sum_cons,ih]
   simp only[if_true]
   exact (h0 ks).symm
def gvB (fm tu:Tm) (c:ByteArray→Nat) (nm:ByteArray) (body:Tm):Bool:=mb nm (fr tu)&&(!cgB (fr fm) (upC c nm)&&occT fm (fr fm) body)
theorem wk_keep {d body:Tm} (hb:binderB op=true) (hbo:OkTm body) (h:(!cgB (fr fm) c&&alikeT (.mk op nm N ty [d,body]) fm [] [])=false) (hg:gvB fm tu c nm body=false):
  wkT fm tu (f+1) c (.mk op nm N ty [d,body])=.mk op nm N ty [wkT fm tu f c d,wkT fm tu f (upC c nm) body]∧wkN fm c (.mk op nm N ty [d,body])=wkN fm c d+wkN fm (upC c nm) body:=by
 have hu:cgB (fr fm) (upC c nm)=(cgB (fr fm) c||mb nm (fr fm)):=cgB_upd _ _ _
 unfold gvB at hg
 rw[hu] at hg
 unfold wkT wkN
 rw[hu]
 cases hc:cgB (fr fm) c
 ·rw[hc] at h hg
  have h2:alikeT (.mk op nm N ty [d,body]) fm [] []=false:=by simpa using h
  have hn:¬ alikeT (.mk op nm N ty [d,body]) fm [] []=true:=by rw[h2];exact Bool.false_ne_true
  rw[repF,if_neg hn,if_pos hb,cntT,if_neg hn,hb]
  cases hm:mb nm (fr fm)
  ·rw[hm] at hg
   have hg2:(mb nm (fr tu)&&occT fm (fr fm) body)=false:=by simpa using hg
   have ez:repZ fm (fr fm) (fr tu) nm body=nm:=by unfold repZ;rw[if_neg (by rw[hg2];exact Bool.false_ne_true)]
   have eb:repB fm (fr fm) (fr tu) nm body=body:=by unfold repB;rw[if_neg (by rw[hg2];exact Bool.false_ne_true)]
   refine⟨?_,?_⟩
   ·simp only[Bool.false_eq_true,if_false,Bool.or_self]
    show Tm.mk op (repZ fm (fr fm) (fr tu) nm body) N ty (repK _ false 0 [d,repB fm (fr fm) (fr tu) nm body])=_
    rw[ez,eb];rfl
   ·simp only[Bool.false_eq_true,if_false,Bool.or_self,cntK,hm]
    simp
  ·refine⟨?_,?_⟩
   ·simp only[if_true,Bool.false_eq_true,if_false,Bool.or_true]
    rfl
   ·simp only[Bool.false_eq_true,if_false,if_true,Bool.or_true,cntK,hm]
    simp
 ·exact⟨by simp,by simp⟩
theorem wk_new {d body:Tm} (hfm:NW fm) (hto:OkTm tu) (hTN:tmN tu≤100000) (hb:binderB op=true) (hbo:OkTm body) (hN:tmN body≤100000) (hid:identB nm=true) (h:(!cgB (fr fm) c&&alikeT (.mk op nm N ty [d,body]) fm [] [])=false) (hg:gvB fm tu c nm body=true):
  ∃ z body',z=freshS nm (fr body++fr tu)∧body'=subT freshS body [(nm,nameT z)]∧identB z=true∧OkTm body'∧tmN body'=tmN body∧tmD body'=tmD body ∧
  wkT fm tu (f+1) c (.mk op nm N ty [d,body])=.mk op z N ty [wkT fm tu f c d,wkT fm tu f (upC c z) body']∧wkN fm c (.mk op nm N ty [d,body])=wkN fm c d+wkN fm (upC c z) body':=by
 unfold gvB at hg
 rw[Bool.and_eq_true,Bool.and_eq_true] at hg
 obtain⟨hu,hcu,ho⟩:=hg
 have hcu:cgB (fr fm) (upC c nm)=false:=by simpa using hcu
 rw[show upC c nm=fun t=>if t=nm then c nm+1 else c t from rfl,cgB_upd,Bool.or_eq_false_iff] at hcu
 obtain⟨hc,hm⟩:=hcu
 have hul:(fr body++fr tu).length≤800000:=by
  rw[List.length_append]
  have:=frs_len body
  have:=frs_len tu
  omega
 have hz1:=freshS_ident hid hul
 have hz2:=freshS_good nm _ hul
 have ez:repZ fm (fr fm) (fr tu) nm body=freshS nm (fr body++fr tu):=by unfold repZ;rw[hu,ho];rfl
 have eb:repB fm (fr fm) (fr tu) nm body=subT freshS body [(nm,nameT (freshS nm (fr body++fr tu)))]:=by unfold repB;rw[hu,ho,ez];rfl
 refine⟨_,_,rfl,rfl,hz1,?_⟩
 generalize freshS nm (fr body++fr tu)=z at *
 rw[mb_app,Bool.or_eq_false_iff] at hz2
 have hzb:∀ s,s∈fr body→s≠nm→s≠z:=fun s hs _ e=>by rw[e] at hs;rw[(mb_iff _ _).2 hs] at hz2;cases hz2.1
 have hsz:=sub1_size hbo (ident_named hz1) hzb (by omega)
 have hso:=sub1_ok (nm:=nm) hbo (ident_named hz1) (by omega)
 have hre:=rename_body (nm:=nm) (z:=z) (body:=body) (by omega) hzb (envL [])
 rw[← envL_snoc,← envL_snoc] at hre
 have hzf:mb z (fr fm)=false:=by
  rw[← Bool.not_eq_true]
  intro e
  have:=occ_fr hfm body hbo.nw ho z ((mb_iff _ _).1 e)
  rw[(mb_iff _ _).2 this] at hz2;cases hz2.1
 have hX:∀ x:ByteArray,mb x (fr fm)=false→∀ s,s∈fr fm→s ∉ []++[x]:=fun x hx s hs e=>by
  rw[List.nil_append,List.mem_singleton] at e
  rw[e] at hs
  rw[(mb_iff _ _).2 hs] at hx;cases hx
 have hcz:cgB (fr fm) (upC c z)=false:=by
  rw[show upC c z=fun t=>if t=z then c z+1 else c t from rfl,cgB_upd,hc,hzf];rfl
 have h2:alikeT (.mk op nm N ty [d,body]) fm [] []=false:=by rw[hc] at h;simpa using h
 refine⟨hso,by omega,by omega,?_,?_⟩
 ·unfold wkT
  rw[hc,hcz]
  simp only[Bool.false_eq_true,if_false]
  rw[repF,if_neg (by rw[h2];exact Bool.false_ne_true),if_pos hb,hm,if_neg Bool.false_ne_true]
  show Tm.mk op (repZ fm (fr fm) (fr tu) nm body) N ty (repK _ false 0 [d,repB fm (fr fm) (fr tu) nm body])=_
  rw[ez,eb];rfl
 ·unfold wkN
  rw[hc,hcz]
  simp only[Bool.false_eq_true,if_false]
  rw[cntT,if_neg (by rw[h2];exact Bool.false_ne_true),hb]
  have e1:=cnt_db hfm body ([]++[nm]) hbo.nw (hX nm hm)
  have e2:=cnt_db hfm (subT freshS body [(nm,nameT z)]) ([]++[z]) hso.nw (hX z hzf)
  rw[hre] at e2
  have e3:cntT fm (fr fm) (subT freshS body [(nm,nameT z)])=cntT fm (fr fm) body:=by rw[e1,e2];rfl
  rw[e3]
  simp[cntK,hm]
end
theorem bagF_none:bagF (fun _=>false)=fun _=>none:=by funext s;rfl
theorem cnt_none:CntF (fun _=>none) (fun _=>0):=fun _=>rfl
def FreP (t:Tm) (w:World) (e:Ending) (w':World):Prop:=∃ p,e=.returned (.map (some p))∧w.heap.size≤p∧MapF w' p (tmN t) (bagF (fun s=>mb s (fr t)))∧Kept (fun _=>False) w w'
theorem free_any {t:Tm} (ht:OkTm t) (hN:tmN t≤400000) (hD:tmD t≤400000) {ok:Nat→Prop} {w:World} {a:Option Addr} {c:Nat} (h2:TmL ok w [t] (.slice a 1 c)):Calls Tryz.prog 86 #[.slice a 1 c] w (FreP t w):=by
 have HCL:=Ld (clc_any ht)
 have HND:Hid (tmN t≤400000∧tmD t≤400000):=Ld ⟨hN,hD⟩
 have HAT:=Ld (fun W (k:Kept (fun _=>False) w W)=>((h2.mono (ok':=fun q=>q<w.heap.size) (fun q hq _=>hq)).frame (sK k)).at 0 (by simp))
 clear hN hD h2 ht
 have hmm:=@run_makeMap Tryz.prog
 go_enter Tryz.func86,Tryz.ntmps86
 go_upto_region 2 with (fail)
 have M1:=Ld (MapF.made w)
 have K1:Hid (Kept (fun _=>False) w (w.alloc (.map #[] 0))):=Ld (kR.alloc _)
 generalize w.alloc (.map #[] 0)=w1 at *
 go_wp2_with fail
 obtain⟨q0,hq0⟩:∃ p,p=w.heap.size:=⟨_,rfl⟩
 go_loopw [9] (fun i wr=>Kept (fun _=>False) w wr∧((i=.int .i64 0∧MapF wr w.heap.size 0 (fun _=>none))∨(i=.int .i64 1∧MapF wr w.heap.size (tmN t) (bagF (fun s=>mb s (fr t)))))) (fun i _=>1-(intOf i).toNat)
 case atStart=>exact⟨K1.out,Or.inl ⟨rfl,M1.out⟩⟩
 case round=>
  obtain⟨hk,⟨rfl,hm⟩ | ⟨rfl,hm⟩⟩:=hrel
  ·obtain⟨q1,o1,ta,tn,tc,pa,pn,pc,rfl,hq1,lq,hC,hkt,hkm⟩:=HAT.out wr hk
   simp only[List.getElem_cons_zero,Nat.zero_mul,Nat.add_zero] at hC hkt hkm
   obtain⟨c0,c1,c2,c3,c4,c5,c6⟩:=hC
   have KR:Kept (fun _=>False) wr (wr.alloc (.cells #[.int .i64 t.op,.string t.name,.int .i64 t.n,.int .i64 t.ty.kind,.string t.ty.name,.slice ta tn tc,.slice pa pn pc] 28)):=kR.alloc _
   have bK:=Ld (Blk.new wr 28 [.int .i64 t.op,.string t.name,.int .i64 t.n,.int .i64 t.ty.kind,.string t.ty.name,.slice ta tn tc,.slice pa pn pc])
   change Hid (Blk (wr.alloc (.cells #[.int .i64 t.op,.string t.name,.int .i64 t.n,.int .i64 t.ty.kind,.string t.ty.name,.slice ta tn tc,.slice pa pn pc] 28)) _ _ _) at bK
   have HK:=Ld hk
   have HM:=Ld hm
   have HKT:=Ld hkt
   have HKM:=Ld hkm
   have KR1:=Ld KR
   clear hk hm hkt hkm KR M1 K1
   go_upto_region 5 with (fail)
   clear c0 c1 c2 c3 c4 c5 c6
   have hw3:Hid ((wr.alloc (.cells #[.int .i64 t.op,.string t.name,.int .i64 t.n,.int .i64 t.ty.kind,.string t.ty.name,.slice ta tn tc,.slice pa pn pc] 28)).heap.size=wr.heap.size+1):=Ld (World.size_alloc _ _)
   generalize wr.alloc (.cells #[.int .i64 t.op,.string t.name,.int .i64 t.n,.int .i64 t.ty.kind,.string t.ty.name,.slice ta tn tc,.slice pa pn pc] 28)=w3 at *
   have gK:=bK.out.cell
   have M3:=Ld (MapF.made w3)
   have K3:Hid (Kept (fun _=>False) w3 (w3.alloc (.map #[] 0))):=Ld (kR.alloc _)
   have HC:=Ld (HCL.out (fun _=>false) (fun _=>0) (w3.alloc (.map #[] 0)) (fun q=>q<w.heap.size) _ _ w3.heap.size 0 w.heap.size 0 (HKT.out.frame (sK (KR1.out.trans K3.out))) (HKM.out.frame (sK (KR1.out.trans K3.out))) ⟨_,M3.out,cnt_none⟩ (by rw[bagF_none];exact HM.out.kept (KR1.out.trans K3.out) (fun e=>e)) (by have:=HM.out.lt;have:=hw3.out;omega) (fun q hq=>⟨by have:=HK.out.size;have:=hw3.out;omega,by omega⟩) (by have:=HND.out.1;omega) (by have:=HND.out.1;omega) (fun s=>by have:=HND.out.2;omega))
   unfold tmVal at HC
   go_wp2_with fail
   clear gK
   refine HC.out.mono ?_
   rintro e w5 ⟨rfl,hR⟩
   have K5:Hid (Kept (fun _=>False) w w5):=Ld (((HK.out.trans KR1.out).trans K3.out).via1 hR.kp (fun x hx e=>by have:=HK.out.size;have:=hw3.out;rcases e with e | e <;> omega))
   have M5:Hid (MapF w5 w.heap.size (tmN t) (bagF (fun s=>mb s (fr t)))):=Ld (by
    have h:=hR.into
    have e:∀ (g:ByteArray→Bool),(∀ s,g s=mb s (fr t))→MapF w5 w.heap.size (0+tmN t) (bagF g)→MapF w5 w.heap.size (tmN t) (bagF (fun s=>mb s (fr t))):=fun g hg hm=>by
     have:g=fun s=>mb s (fr t):=funext hg
     rw[← this];exact hm.mono (by omega)
    exact e _ (fun s=>by simp) h)
   clear hR HC M3 K3 HK HM HKT HKM KR1 bK
   go_wp2_with fail
   go_roundw
   case rel=>exact⟨K5.out,Or.inr ⟨rfl,M5.out⟩⟩
   case measure=>simp[intOf]
  ·have HK:=Ld hk
   have HM:=Ld hm
   clear hk hm M1 K1
   go_wp2_with fail
   go_ret
   exact⟨_,rfl,Nat.le_refl _,HM.out,HK.out⟩
def PrV (ok:Nat→Prop) (w:World) (σ:ByteArray→Option Tm) (f:ByteArray→Option Value):Prop:=∀ s,match σ s with
 | none=>f s=none
 | some u=>∃ ta tn tc pa pn pc,f s=some (tmVal u (.slice ta tn tc) (.slice pa pn pc))∧TyL ok w u.ty.kids (.slice ta tn tc)∧TmL ok w u.kids (.slice pa pn pc)
def PrM (ok:Nat→Prop) (w:World) (b n:Nat) (σ:ByteArray→Option Tm):Prop:=∃ f,MapF w b n f∧PrV ok w σ f
theorem PrV.frame {ok:Nat→Prop} {w W:World} {σ:ByteArray→Option Tm} {f:ByteArray→Option Value} (h:PrV ok w σ f) (hs:Same ok w W):PrV ok W σ f:=by
 intro s
 have h1:=h s
 cases hu:σ s with
 | none=>rw[hu] at h1;exact h1
 | some u=>
  rw[hu] at h1
  obtain⟨ta,tn,tc,pa,pn,pc,h1,h2,h3⟩:=h1
  exact⟨ta,tn,tc,pa,pn,pc,h1,h2.frame hs,h3.frame hs⟩
theorem PrV.mono {ok ok':Nat→Prop} {w:World} {σ:ByteArray→Option Tm} {f:ByteArray→Option Value} (h:PrV ok w σ f) (ho:∀ k,k<w.heap.size→ok k→ok' k):PrV ok' w σ f:=by
 intro s
 have h1:=h s
 cases hu:σ s with
 | none=>rw[hu] at h1;exact h1
 | some u=>
  rw[hu] at h1
  obtain⟨ta,tn,tc,pa,pn,pc,h1,h2,h3⟩:=h1
  exact⟨ta,tn,tc,pa,pn,pc,h1,h2.mono ho,h3.mono ho⟩
theorem PrV.at {ok:Nat→Prop} {w:World} {σ:ByteArray→Option Tm} {f:ByteArray→Option Value} (h:PrV ok w σ f) {s:ByteArray} {v:Value} (hv:f s=some v):∃ u ta tn tc pa pn pc,σ s=some u∧v=tmVal u (.slice ta tn tc) (.slice pa pn pc)∧TyL ok w u.ty.kids (.slice ta tn tc)∧TmL ok w u.kids (.slice pa pn pc):=by
 have h1:=h s
 cases hu:σ s with
 | none=>rw[hu] at h1;rw[h1] at hv;cases hv
 | some u=>
  rw[hu] at h1
  obtain⟨ta,tn,tc,pa,pn,pc,h1,h2,h3⟩:=h1
  rw[h1] at hv
  cases hv
  exact⟨u,ta,tn,tc,pa,pn,pc,rfl,rfl,h2,h3⟩
theorem PrM.kept {ok:Nat→Prop} {w W:World} {b n:Nat} {σ:ByteArray→Option Tm} {S:Nat→Prop} (h:PrM ok w b n σ) (k:Kept S w W) (hb:¬ S b) (ho:∀ q,ok q→¬ S q):PrM ok W b n σ:=by
 obtain⟨f,h1,h2⟩:=h
 exact⟨f,h1.kept k hb,h2.frame (Same.of_kept k ho)⟩
theorem PrM.some_iff {ok:Nat→Prop} {w:World} {σ:ByteArray→Option Tm} {f:ByteArray→Option Value} (h:PrV ok w σ f) (s:ByteArray):(f s).isSome=(σ s).isSome:=by
 have h1:=h s
 cases hu:σ s with
 | none=>rw[hu] at h1;rw[h1];rfl
 | some u=>rw[hu] at h1;obtain⟨_,_,_,_,_,_,h1,_⟩:=h1;rw[h1];rfl
theorem u85:Tryz.prog.underlying 85=some (.map 9 28):=Tryz.underlying85
def undF (x:ByteArray) (B:ByteArray→Bool) (σ:ByteArray→Option Tm):ByteArray→Option Tm:=fun s=>if !decide (s=x)&&B s then σ s else none
theorem under_any {x:ByteArray} {B:ByteArray→Bool} {σ:ByteArray→Option Tm} {ok:Nat→Prop} {w:World} {b n c m:Nat} (hm:PrM ok w b n σ) (hc:MapF w c m (bagF B)) (hn:n≤1000000):
  Calls Tryz.prog 183 #[.map (some b),.string x,.map (some c)] w fun e w'=>∃ p,e=.returned (.map (some p))∧w.heap.size≤p∧PrM (fun q=>ok q∧q<w.heap.size) w' p n (undF x B σ)∧Kept (fun _=>False) w w':=by
 obtain⟨f,hf,hv⟩:=hm
 have HV:=Ld hv
 have HNN:=Ld hn
 have hmm:=@run_makeMap Tryz.prog
 have HF:=Ld hf
 have HC:=Ld hc
 have HL:Hid (b<w.heap.size∧c<w.heap.size):=Ld ⟨hf.lt,hc.lt⟩
 clear hf hc hn hv
 go_enter Tryz.func183,Tryz.ntmps183
 go_upto_region 2 with (fail)
 have M1:=Ld (MapF.made w)
 have K1:Hid (Kept (fun _=>False) w (w.alloc (.map #[] 0))):=Ld (kR.alloc _)
 have Z1:Hid ((w.alloc (.map #[] 0)).heap.size=w.heap.size+1):=Ld (World.size_alloc _ _)
 generalize w.alloc (.map #[] 0)=w1 at *
 have F1:=Ld (HF.out.kept K1.out (fun e=>e))
 go_wp2_with (at_range;refine wpList_rangeF rfl _ _ 28 rfl u85 rfl F1.out ?_;intro w2 cnt hR k2 z2 hcn)
 have M2:=Ld (M1.out.kept k2 (fun e=>e))
 have KW2:=Ld (K1.out.trans k2)
 have HR:=Ld hR
 have HCN:Hid (cnt≤1000000∧cnt≤n):=Ld (by have:=HNN.out;omega)
 rw[Z1.out] at HR
 have Z2:Hid (w2.heap.size=w.heap.size+2):=Ld (by have:=Z1.out;omega)
 have e1:=Z1.out
 rw[e1]
 clear hR k2 z2 hcn M1 K1 F1 e1
 go_frame
 go_loopw [] (fun wr=>∃ (cnt' k:Nat) (g:ByteArray→Bool),Kept (fun _=>False) w wr∧MapR wr b (w.heap.size+1) n f g cnt'∧cnt'+k≤cnt∧(∀ s,g s=true→(f s).isSome=true)∧MapF wr w.heap.size k (fun s=>if g s then none else if !decide (s=x)&&B s then f s else none)) (fun wr=>wr.rangeLeft b (w.heap.size+1))
 case atStart=>
  refine⟨cnt,0,fun s=>(f s).isSome,KW2.out,HR.out,Nat.le_refl _,fun _ h=>h,?_⟩
  have e:(fun s=>if (f s).isSome then none else if !decide (s=x)&&B s then f s else none)=fun _=>none:=by
   funext s
   cases hs:f s <;> simp
  rw[e]
  exact M2.out
 case round=>
  obtain⟨cnt',k,g,hk,hR',hle,hgs,hM⟩:=hrel
  have HK:=Ld hk
  have HRR:=Ld hR'
  have HM:=Ld hM
  have HLE:=Ld hle
  have HGS:=Ld hgs
  clear hk hR' hle hM hgs HR M2 KW2 hmm
  go_wp2_with (at_next;refine wpList_nextF rfl _ rfl rfl HRR.out ?_ ?_)
  ·intro h0
   have HE:Hid (PrM (fun q=>ok q∧q<w.heap.size) wr w.heap.size n (undF x B σ)):=Ld (by
    refine⟨_,HM.out.mono (by have:=HLE.out;have:=HCN.out.2;omega),?_⟩
    have hv:=(HV.out.mono (ok':=fun q=>ok q∧q<w.heap.size) (fun q h1 h2=>⟨h2,h1⟩)).frame (sK HK.out)
    intro s
    have hg:g s=false:=by
     cases hg:g s with
     | false=>rfl
     | true=>rw[h0 s (HRR.out.map.small (HGS.out s hg))] at hg;cases hg
    unfold undF
    simp only[hg,Bool.false_eq_true,if_false]
    cases hq:(!decide (s=x)&&B s)
    ·simp
    ·simp only[if_true]
     exact hv s)
   go_wp2_with fail
   go_ret
   exact⟨_,rfl,Nat.le_refl _,HE.out,HK.out⟩
  ·intro s v w3 cnt3 hs hg hfs hR3 hlt k3 z3 hen
   obtain⟨u,ta,tn,tc,pa,pn,pc,hu,rfl,hty,htm⟩:=HV.out.at hfs
   unfold tmVal at hen hfs ⊢
   have KW3:=Ld (HK.out.via1 k3 (fun q hq e=>by omega))
   have M3:=Ld (HM.out.kept k3 (fun e=>by omega))
   have HR3:=Ld hR3
   have HLT:=Ld hlt
   have HS:=Ld hs
   have HG:=Ld hg
   have HFS:=Ld hfs
   have HLO:=Ld HRR.out.left
   clear hu hty htm k3 hR3 hlt hg hfs hs HRR HM
   go_upto_region 5 with (fail)
   clear hen
   have bK:=Ld (Blk.new w3 28 [.int .i64 u.op,.string u.name,.int .i64 u.n,.int .i64 u.ty.kind,.string u.ty.name,.slice ta tn tc,.slice pa pn pc])
   change Hid (Blk (w3.alloc (.cells #[.int .i64 u.op,.string u.name,.int .i64 u.n,.int .i64 u.ty.kind,.string u.ty.name,.slice ta tn tc,.slice pa pn pc] 28)) w3.heap.size _ _) at bK
   rw[z3] at bK
   have K4:Hid (Kept (fun _=>False) w3 (w3.alloc (.cells #[.int .i64 u.op,.string u.name,.int .i64 u.n,.int .i64 u.ty.kind,.string u.ty.name,.slice ta tn tc,.slice pa pn pc] 28))):=Ld (kR.alloc _)
   generalize w3.alloc (.cells #[.int .i64 u.op,.string u.name,.int .i64 u.n,.int .i64 u.ty.kind,.string u.ty.name,.slice ta tn tc,.slice pa pn pc] 28)=w4 at *
   have KW4:=Ld (KW3.out.trans K4.out)
   have M4:=Ld (M3.out.kept K4.out (fun e=>e))
   have HR4:=Ld (HR3.out.kept K4.out (fun e=>e) (fun e=>e))
   have hlk:=(HC.out.kept KW4.out (fun e=>e)).look u90 (z4 _) HS.out
   rw[bagF_get] at hlk
   have gB:=bK.out.cell
   have HGN:Hid (∀ t,(g t&&!decide (t=s))=true→(f t).isSome=true):=Ld (fun t ht=>HGS.out t (by rw[Bool.and_eq_true] at ht;exact ht.1))
   have HST:Hid (((!decide (s=x)&&B s)=true)→updF (fun t=>if g t then none else if !decide (t=x)&&B t then f t else none) s (.agg #[.int .i64 u.op,.string u.name,.int .i64 u.n,.int .i64 u.ty.kind,.string u.ty.name,.slice ta tn tc,.slice pa pn pc])=fun t=>if g t&&!decide (t=s) then none else if !decide (t=x)&&B t then f t else none):=Ld (fun hq=>by
    funext t
    unfold updF
    by_cases ht:t=s
    ·subst ht;simp only[if_true,decide_true,Bool.not_true,Bool.and_false,Bool.false_eq_true,if_false,hq];exact HFS.out.symm
    ·simp[ht])
   have HSF:Hid (((!decide (s=x)&&B s)=false)→(fun t=>if g t then none else if !decide (t=x)&&B t then f t else none)=fun t=>if g t&&!decide (t=s) then none else if !decide (t=x)&&B t then f t else none):=Ld (fun hq=>by
    funext t
    by_cases ht:t=s
    ·subst ht;simp only[decide_true,Bool.not_true,Bool.and_false,Bool.false_eq_true,if_false,hq,HG.out,if_true]
    ·simp[ht])
   have HX:Hid ((s.toList==x.toList)=decide (s=x)):=Ld nm_eq
   have HNK:Hid (k<maxLen):=Ld (by have:=HLE.out;have:=HCN.out.1;unfold maxLen;omega)
   clear M3 HR3 K4 KW3 HFS HGS
   cases hx:(s.toList==x.toList)
   ·have HX2:Hid (decide (s=x)=false):=Ld (by rw[← HX.out];exact hx)
    cases hB:B s
    ·have HSQ:=Ld (HSF.out (by rw[hB];simp))
     rw[hB] at hlk
     clear hB HSF HST
     go_wp2_with fail
     go_roundw
     case rel=>exact⟨cnt3,k,_,KW4.out,HR4.out,by have:=HLE.out;have:=HLT.out;omega,HGN.out,by rw[← HSQ.out];exact M4.out⟩
     case measure=>rw[HR4.out.left,HLO.out];exact HLT.out
    ·have HSQ:=Ld (HST.out (by rw[hB,HX2.out];rfl))
     rw[hB] at hlk
     clear hB HSF HST
     go_wp2_with (at_mapUpdate;refine wpList_storeF rfl _ _ _ _ 28 rfl u85 rfl M4.out s rfl HS.out HNK.out (.agg #[.int .i64 u.op,.string u.name,.int .i64 u.n,.int .i64 u.ty.kind,.string u.ty.name,.slice ta tn tc,.slice pa pn pc]) rfl ?_;intro w5 hm5 k5;clear gB hlk)
     rw[HSQ.out] at hm5
     have KW5:=Ld (KW4.out.via1 k5 (fun q hq e=>by omega))
     have HR5:=Ld (HR4.out.kept k5 (fun e=>by have:=HL.out.1;omega) (fun e=>by omega))
     have HM5:=Ld hm5
     clear hm5 k5
     go_wp2_with fail
     go_frame
     go_roundw
     case rel=>exact⟨cnt3,k+1,_,KW5.out,HR5.out,by have:=HLE.out;have:=HLT.out;omega,HGN.out,HM5.out⟩
     case measure=>rw[HR5.out.left,HLO.out];exact HLT.out
   ·have HX2:Hid (decide (s=x)=true):=Ld (by rw[← HX.out];exact hx)
    have HSQ:=Ld (HSF.out (by rw[HX2.out];rfl))
    clear HSF HST hlk
    go_wp2_with fail
    go_roundw
    case rel=>exact⟨cnt3,k,_,KW4.out,HR4.out,by have:=HLE.out;have:=HLT.out;omega,HGN.out,by rw[← HSQ.out];exact M4.out⟩
    case measure=>rw[HR4.out.left,HLO.out];exact HLT.out
theorem remG_once (x:ByteArray) (F:List ByteArray):∀ (l out:List (ByteArray×Tm)),(∀ b∈out,look out b.1=some b.2)→∀ b∈remG x F out l,look (remG x F out l) b.1=some b.2
 | [],out,h=>by rw[remG];exact h
 | b::l,out,h=>by
  rw[remG]
  split
  ·exact remG_once x F l out h
  ·rename_i hc
   refine remG_once x F l (out++[b]) (fun c hcm=>?_)
   simp only[Bool.or_eq_true,not_or,Bool.not_eq_true] at hc
   have hn:look out b.1=none:=by
    cases hl:look out b.1 with
    | none=>rfl
    | some u=>rw[hl] at hc;exact absurd hc.1.1 (by simp)
   rw[look_app]
   rcases List.mem_append.1 hcm with hcm | hcm
   ·rw[h c hcm]
   ·rw[List.mem_singleton.1 hcm,hn]
    simp[look]
theorem frB_look {l:List (ByteArray×Tm)} (h:∀ b∈l,look l b.1=some b.2) (x:ByteArray):mb x (frB l)=true↔∃ s u,look l s=some u∧mb x (fr u)=true:=by
 constructor
 ·intro hx
  have key:∀ (r:List (ByteArray×Tm)),mb x (frB r)=true→∃ b∈r,mb x (fr b.2)=true:=by
   intro r
   induction r with
   | nil=>intro h;cases h
   | cons b r ih=>
    intro h
    rw[frB,mb_app,Bool.or_eq_true] at h
    rcases h with h | h
    ·exact⟨b,by simp,h⟩
    ·obtain⟨c,hc,hx⟩:=ih h
     exact⟨c,List.mem_cons_of_mem _ hc,hx⟩
  obtain⟨b,hb,hx⟩:=key l hx
  exact⟨b.1,b.2,h b hb,hx⟩
 ·rintro⟨s,u,hs,hx⟩
  rw[mb_iff] at hx ⊢
  exact frB_mem hs hx
theorem rem_und {l:List (ByteArray×Tm)} {σ:ByteArray→Option Tm} (h:∀ s,look l s=σ s) (x:ByteArray) (y:Tm) (s:ByteArray):look (remL l x (fr y)) s=undF x (fun s=>mb s (fr y)) σ s:=by
 rw[remL_look,h]
 unfold undF
 by_cases hx:s=x
 ·simp[hx]
 ·cases hm:mb s (fr y) <;> simp[hx,hm]
theorem rem_caught {l:List (ByteArray×Tm)} {σ:ByteArray→Option Tm} (h:∀ s,look l s=σ s) (x:ByteArray) (y:Tm) (z:ByteArray):mb z (frB (remL l x (fr y)))=true↔∃ s u,undF x (fun s=>mb s (fr y)) σ s=some u∧mb z (fr u)=true:=by
 have h0:∀ b∈remL l x (fr y),look (remL l x (fr y)) b.1=some b.2:=remG_once x (fr y) l [] (fun b hb=>by cases hb)
 rw[frB_look h0]
 constructor
 ·rintro⟨s,u,hs,hz⟩;exact⟨s,u,by rw[← rem_und h];exact hs,hz⟩
 ·rintro⟨s,u,hs,hz⟩;exact⟨s,u,by have:=rem_und h x y s;rw[hs] at this;exact this,hz⟩
theorem look_none {l:List (ByteArray×Tm)} (h:∀ s,look l s=none):l=[]:=by
 cases l with
 | nil=>rfl
 | cons b l=>have:=h b.1;rw[look,if_pos rfl] at this;cases this
structure KP (W:World) (base g n:Nat) (R:Nat→Option Tm):Prop where
 row:∃ (L:List Value) (K M:Nat→Value),Blk W g 28 L∧L.length=n*7∧∀ i,i<n→∀ u,R i=some u→L[i*7]?=some (.int .i64 u.op)∧L[i*7+1]?=some (.string u.name)∧L[i*7+2]?=some (.int .i64 u.n)∧L[i*7+3]?=some (.int .i64 u.ty.kind)∧L[i*7+4]?=some (.string u.ty.name)∧L[i*7+5]?=some (K i)∧L[i*7+6]?=some (M i)∧TyL (fun q=>base≤q∧q≠g) W u.ty.kids (K i)∧TmL (fun q=>base≤q∧q≠g) W u.kids (M i)
theorem KP.kept {W W':World} {base g n:Nat} {R:Nat→Option Tm} (h:KP W base g n R) {S:Nat→Prop} (k:Kept S W W') (h1:¬ S g) (h2:∀ q,base≤q→q≠g→¬ S q):KP W' base g n R:=by
 obtain⟨L,K,M,bG,hL,hR⟩:=h.row
 refine⟨⟨L,K,M,bG.kept k h1,hL,fun i hi u hu=>?_⟩⟩
 obtain⟨e0,e1,e2,e3,e4,e5,e6,e7,e8⟩:=hR i hi u hu
 exact⟨e0,e1,e2,e3,e4,e5,e6,e7.frame (Same.of_kept k (fun q hq=>h2 q hq.1 hq.2)),e8.frame (Same.of_kept k (fun q hq=>h2 q hq.1 hq.2))⟩
theorem KP.lt {W:World} {base g n:Nat} {R:Nat→Option Tm} (h:KP W base g n R):g<W.heap.size:=by obtain⟨L,K,M,bG,_⟩:=h.row;exact bG.lt
theorem KP.frozen {W:World} {base g n:Nat} {R:Nat→Option Tm} (h:KP W base g n R):∀ i,W.frozen? ⟨g,i,none⟩=false:=by obtain⟨L,K,M,bG,_⟩:=h.row;exact bG.frozen
theorem KP.there {W:World} {base g n:Nat} {R:Nat→Option Tm} (h:KP W base g n R) {i:Nat} (hi:i<n*7):∃ v,W.cell? ⟨g,i,none⟩=some v:=by
 obtain⟨L,K,M,bG,hL,_⟩:=h.row
 exact⟨L[i],by rw[bG.cell,List.getElem?_eq_getElem]⟩
theorem KP.lay {W:World} {base g n j:Nat} (h:KP W base g n (fun _=>none)) (hj:j<n) (x0 x1 x2 x3 x4 x5 x6:Value) (W3:World)
  (hW:W3=((((((W.setCell ⟨g,j*7,none⟩ x0).setCell ⟨g,j*7+1,none⟩ x1).setCell ⟨g,j*7+2,none⟩ x2).setCell ⟨g,j*7+3,none⟩ x3).setCell ⟨g,j*7+4,none⟩ x4).setCell ⟨g,j*7+5,none⟩ x5).setCell ⟨g,j*7+6,none⟩ x6):KP W3 base g n (fun _=>none):=by
 obtain⟨L,K,M,bG,hL,hR⟩:=h.row
 subst hW
 exact⟨⟨_,K,M,(((((((bG.set _ _).set _ _).set _ _).set _ _).set _ _).set _ _).set _ _),by simpa using hL,fun i hi u hu=>by cases hu⟩⟩
theorem KP.put {W:World} {base g n j:Nat} {R:Nat→Option Tm} {u:Tm} {v x:Value} (h:KP W base g n R) (hj:j<n) (hv:TyL (fun q=>base≤q∧q≠g) W u.ty.kids v) (hx:TmL (fun q=>base≤q∧q≠g) W u.kids x) (W3:World)
  (hW:W3=((((((W.setCell ⟨g,j*7,none⟩ (.int .i64 u.op)).setCell ⟨g,j*7+1,none⟩ (.string u.name)).setCell ⟨g,j*7+2,none⟩ (.int .i64 u.n)).setCell ⟨g,j*7+3,none⟩ (.int .i64 u.ty.kind)).setCell ⟨g,j*7+4,none⟩ (.string u.ty.name)).setCell ⟨g,j*7+5,none⟩ v).setCell ⟨g,j*7+6,none⟩ x):KP W3 base g n (fun i=>if i=j then some u else R i):=by
 obtain⟨L,K,M,bG,hL,hR⟩:=h.row
 subst hW
 refine⟨⟨((((((L.set (j*7) (.int .i64 u.op)).set (j*7+1) (.string u.name)).set (j*7+2) (.int .i64 u.n)).set (j*7+3) (.int .i64 u.ty.kind)).set (j*7+4) (.string u.ty.name)).set (j*7+5) v).set (j*7+6) x,fun i=>if i=j then v else K i,fun i=>if i=j then x else M i,
  (((((((bG.set _ _).set _ _).set _ _).set _ _).set _ _).set _ _).set _ _),by simpa using hL,fun i hi t ht=>?_⟩⟩
 by_cases hij:i=j
 ·subst hij
  simp only[if_true,Option.some.injEq] at ht ⊢
  subst ht
  refine⟨?_,?_,?_,?_,?_,?_,?_,?_,?_⟩
  ·rw[List.getElem?_set_ne (by omega),List.getElem?_set_ne (by omega),List.getElem?_set_ne (by omega),List.getElem?_set_ne (by omega),List.getElem?_set_ne (by omega),List.getElem?_set_ne (by omega),List.getElem?_set_self (by omega)]
  ·rw[List.getElem?_set_ne (by omega),List.getElem?_set_ne (by omega),List.getElem?_set_ne (by omega),List.getElem?_set_ne (by omega),List.getElem?_set_ne (by omega),List.getElem?_set_self (by simp;omega)]
  ·rw[List.getElem?_set_ne (by omega),List.getElem?_set_ne (by omega),List.getElem?_set_ne (by omega),List.getElem?_set_ne (by omega),List.getElem?_set_self (by simp;omega)]
  ·rw[List.getElem?_set_ne (by omega),List.getElem?_set_ne (by omega),List.getElem?_set_ne (by omega),List.getElem?_set_self (by simp;omega)]
  ·rw[List.getElem?_set_ne (by omega),List.getElem?_set_ne (by omega),List.getElem?_set_self (by simp;omega)]
  ·rw[List.getElem?_set_ne (by omega),List.getElem?_set_self (by simp;omega)]
  ·rw[List.getElem?_set_self (by simp;omega)]
  ·exact hv.frame (set7 (fun q h=>h.2))
  ·exact hx.frame (set7 (fun q h=>h.2))
 ·simp only[if_neg hij] at ht ⊢
  obtain⟨e0,e1,e2,e3,e4,e5,e6,e7,e8⟩:=hR i hi t ht
  refine⟨?_,?_,?_,?_,?_,?_,?_,e7.frame (set7 (fun q h=>h.2)),e8.frame (set7 (fun q h=>h.2))⟩
  all_goals (rw[List.getElem?_set_ne (by omega),List.getElem?_set_ne (by omega),List.getElem?_set_ne (by omega),List.getElem?_set_ne (by omega),List.getElem?_set_ne (by omega),List.getElem?_set_ne (by omega),List.getElem?_set_ne (by omega)];assumption)
theorem KP.krow {W:World} {base g:Nat} {l:List Tm} {R:Nat→Option Tm} (h:KP W base g l.length R) (hR:∀ i (hi:i<l.length),R i=some l[i]):KRow W base g l:=by
 obtain⟨L,K,M,bG,hL,h1⟩:=h.row
 exact⟨⟨L,K,M,bG,by omega,fun i hi=>h1 i hi _ (hR i hi)⟩⟩
end Go.Proofs.YtfhedienjnfdcaaGreatDoor
