/- What leads to the law, part 4. Conditions: each lemma's own. -/
import Derived.Test.YtdggohppeeaipaaGreatKCM3
set_option linter.unusedVariables false
set_option linter.unusedSimpArgs false
namespace Go.Proofs.YtdggohppeeaipaaGreat
open Go.RowKit
theorem l_ (z:Array Value) (n:Nat):(Builtin.zeroCells z n).toList.length=n*z.size:=by rw [Array.length_toList,size_zeroCells]
theorem aY {w:World} {g:Nat} {o:Obj} (h:w.heap[g]? = some o):g<w.heap.size:=(Array.getElem?_eq_some_iff.1 h).1
theorem bZ:(Tryz.prog.info? 44).map (·.size)=some 4:=by kernel_rfl
theorem ym:(Tryz.prog.info? 44).map (fun i=>(i.zero,i.size,i.bytes))=some (some (.agg #[.int .i64 0,.int .i64 0,.int .i64 0,.int .i64 0]),4,32):=by kernel_rfl
set_option maxRecDepth 100000 in
set_option maxHeartbeats 1000000 in
theorem qP {w:World} {n c vc:Nat} {A:Option Addr} {B:Option Addr} {φ:Value->World->Prop} (happ:∀ (F:Fr) (x y:Operand) (ty:TypeId),ev F x=some (.slice A n c)->ev F y=some (.slice B 1 vc)->∃ v2 w2,aK Tryz.prog 95 F w (.call { callee:=.builtin .append,args:=#[x,y],argTypes:=#[22,22] }) ty v2 w2/\φ v2 w2) :
  gz Tryz.prog 36 [.slice A n c,.int .i64 (n:Int),.slice B 1 vc].toArray w φ:=by
 refine gz.enter Tryz.func36 rfl rfl rfl rfl ?_
 refine WC.seq ?_
 refine WC.region ?_
 refine WO.v (R.assign rfl) rfl ?_
 refine WO.nil ?_
 refine WX.next ?_
 refine WC.seq ?_
 refine WC.region ?_
 refine WO.v (R.move rfl) rfl ?_
 refine WO.v (R.move rfl) rfl ?_
 refine WO.v (R.bW rfl rfl Tryz.underlying22 bZ rfl (by omega)) rfl ?_
 refine WO.nil ?_
 refine WX.next ?_
 refine WC.seq ?_
 refine WC.region ?_
 refine WO.v (R.move rfl) rfl ?_
 refine WO.v (R.len rfl Tryz.underlying22) rfl ?_
 refine WO.v (R.assign rfl) rfl ?_
 refine WO.nil ?_
 refine WX.next ?_
 refine WC.seq ?_
 refine WC.seq ?_
 refine WC.region ?_
 refine WO.v (R.move rfl) rfl ?_
 refine WO.v (R.eql rfl rfl) rfl ?_
 refine WO.nil ?_
 refine WX.next ?_
 refine WC.cond rfl (fun q=>absurd (of_decide_eq_true q) (by omega)) (fun _=>?_)
 refine WC.skip ?_
 refine WX.next ?_
 refine WC.seq ?_
 refine WC.region ?_
 refine WO.v (R.move rfl) rfl ?_
 refine WO.v (R.len rfl Tryz.underlying22) rfl ?_
 refine WO.v (R.assign rfl) rfl ?_
 refine WO.nil ?_
 refine WX.next ?_
 refine WC.seq ?_
 refine WC.seq ?_
 refine WC.region ?_
 refine WO.v (R.move rfl) rfl ?_
 refine WO.v (R.move rfl) rfl ?_
 refine WO.v (R.eql rfl rfl) rfl ?_
 refine WO.nil ?_
 refine WX.next ?_
 refine WC.cond rfl (fun _=>?_) (fun q=>absurd rfl (of_decide_eq_false q))
 refine WC.seq ?_
 refine WC.region ?_
 refine WO.v (R.move rfl) rfl ?_
 refine WO.v (R.move rfl) rfl ?_
 refine WO.ve (happ _ _ _ _ rfl rfl) rfl fun v2 w2 hv2=>?_
 refine WO.v (R.assign rfl) rfl ?_
 refine WO.nil ?_
 refine WX.next ?_
 refine WC.ret ?_
 refine WX.gl ?_
 refine WX.rQ rfl rfl ?_
 exact hv2
set_option maxRecDepth 100000 in
set_option maxHeartbeats 1000000 in
theorem oT {w W1:World} {g b n i c vc G:Nat} {ad:Addr} {cur vs ds:List Value} (hi:i<n) (hnc:n<=c) (hc:c<n+1) (hcm:c<=maxLen) (hG:n+1<=G) (hGm:G<=maxLen)
  (happ:∀ (F:Fr) (x y:Operand) (ty:TypeId),ev F x=some (.slice (some ⟨g,0*4,none⟩) i c)->ev F y=some (.int .i64 ((n+1 - i:Nat):Int))->aK Tryz.prog 95 F w (.call { callee:=.builtin .append,args:=#[x,y],argTypes:=#[22,3] }) ty (.slice (some ⟨b,0,none⟩) (n+1) G) W1)
  (hrow:W1.heap[b]? = some (.cells cur.toArray 44 (0,0))) (hcur:(n+1)*4<=cur.length) (hv:CellsAt W1 ad vs) (hvl:vs.length=4) (hd:CellsAt W1 ⟨g,i*4,none⟩ ds) (hgb:g≠b) (hgl:g<W1.heap.size) (hdl:ds.length=(n - i)*4)
  (h1v:∀ u ∈ vs,u.oneCell' = true) (h1d:∀ u ∈ ds,u.oneCell' = true) :
  gz Tryz.prog 36 [.slice (some ⟨g,0,none⟩) n c,.int .i64 (i:Int),.slice (some ad) 1 vc].toArray w fun v w'=>v = .slice (some ⟨b,0,none⟩) (n+1) G/\∃ w1,Kp [] (W1.setRow b (cur.take (i*4)++vs++cur.drop (i*4+vs.length)).toArray) w1/\w' = w1.setRow b ((cur.take (i*4)++vs++cur.drop (i*4+vs.length)).take ((i+1)*4)++ds++(cur.take (i*4)++vs++cur.drop (i*4+vs.length)).drop ((i+1)*4+ds.length)).toArray:=by
 have hGm:G<=9223372036854775807:=hGm
 have hcm:c<=9223372036854775807:=hcm
 have hn1:vs.length=Nat.min 1 (n+1 - i)*4:=by rw [show Nat.min 1 (n+1 - i)=1 from Nat.min_eq_left (by omega),Nat.one_mul]; exact hvl
 have hn2:ds.length=Nat.min (n - i) (n+1 - (i+1))*4:=by rw [show Nat.min (n - i) (n+1 - (i+1))=n - i from Nat.min_eq_left (by omega)]; exact hdl
 refine gz.enter Tryz.func36 rfl rfl rfl rfl ?_
 refine WC.seq ?_
 refine WC.region ?_
 refine WO.v (R.assign rfl) rfl ?_
 refine WO.nil ?_
 refine WX.next ?_
 refine WC.seq ?_
 refine WC.region ?_
 refine WO.v (R.move rfl) rfl ?_
 refine WO.v (R.move rfl) rfl ?_
 refine WO.v (R.bW rfl rfl Tryz.underlying22 bZ rfl (by omega)) rfl ?_
 refine WO.nil ?_
 refine WX.next ?_
 refine WC.seq ?_
 refine WC.region ?_
 refine WO.v (R.move rfl) rfl ?_
 refine WO.v (R.len rfl Tryz.underlying22) rfl ?_
 refine WO.v (R.assign rfl) rfl ?_
 refine WO.nil ?_
 refine WX.next ?_
 refine WC.seq ?_
 refine WC.seq ?_
 refine WC.region ?_
 refine WO.v (R.move rfl) rfl ?_
 refine WO.v (R.eql rfl rfl) rfl ?_
 refine WO.nil ?_
 refine WX.next ?_
 refine WC.cond rfl (fun q=>absurd (of_decide_eq_true q) (by omega)) (fun _=>?_)
 refine WC.skip ?_
 refine WX.next ?_
 refine WC.seq ?_
 refine WC.region ?_
 refine WO.v (R.move rfl) rfl ?_
 refine WO.v (R.len rfl Tryz.underlying22) rfl ?_
 refine WO.v (R.assign rfl) rfl ?_
 refine WO.nil ?_
 refine WX.next ?_
 refine WC.seq ?_
 refine WC.seq ?_
 refine WC.region ?_
 refine WO.v (R.move rfl) rfl ?_
 refine WO.v (R.move rfl) rfl ?_
 refine WO.v (R.eql rfl rfl) rfl ?_
 refine WO.nil ?_
 refine WX.next ?_
 refine WC.cond rfl (fun q=>absurd (of_decide_eq_true q) (by omega)) (fun _=>?_)
 refine WC.skip ?_
 refine WX.next ?_
 refine WC.seq ?_
 refine WC.seq ?_
 refine WC.region ?_
 refine WO.v (R.move rfl) rfl ?_
 refine WO.v (R.move rfl) rfl ?_
 refine WO.v (R.ig rfl rfl (by omega)) rfl ?_
 refine WO.v (R.move rfl) rfl ?_
 refine WO.v (R.Af rfl Tryz.underlying22) rfl ?_
 refine WO.v (R.gtr rfl rfl) rfl ?_
 refine WO.nil ?_
 refine WX.next ?_
 refine WC.cond rfl (fun _=>?_) (fun q=>absurd (by omega) (of_decide_eq_false q))
 refine WC.seq ?_
 refine WC.region ?_
 refine WO.v (R.move rfl) rfl ?_
 refine WO.v (R.move rfl) rfl ?_
 refine WO.v (R.ja rfl rfl Tryz.underlying22 bZ (dg (i:=0) (by omega)) (by omega)) rfl ?_
 refine WO.v (R.move rfl) rfl ?_
 refine WO.v (R.move rfl) rfl ?_
 refine WO.v (R.ig rfl rfl (by omega)) rfl ?_
 refine WO.v (R.move rfl) rfl ?_
 refine WO.v (R.Fg rfl rfl (by omega) (by omega)) rfl ?_
 refine WO.v (happ _ _ _ _ rfl rfl) rfl ?_
 refine WO.v (R.assign rfl) rfl ?_
 refine WO.nil ?_
 refine WX.next ?_
 refine WC.seq ?_
 refine WC.region ?_
 refine WO.v (R.move rfl) rfl ?_
 refine WO.v (R.move rfl) rfl ?_
 refine WO.v (R.bW rfl rfl Tryz.underlying22 bZ (dg (by omega)) (by omega)) rfl ?_
 refine WO.v (R.move rfl) rfl ?_
 refine WO.v (R.jS rfl rfl Tryz.underlying22 bZ hrow hn1 hv (by omega) h1v) rfl ?_
 refine WO.nil ?_
 refine WX.next ?_
 refine WC.seq ?_
 refine WC.nt fB [.ex [] (.slice (some ⟨b,0,none⟩) (n+1) G),.ex [] (.int .i64 ((i:Nat):Int)),.ex [] (.int .i64 ((1:Nat):Int)),.ex [1,2] (.int .i64 ((i+1:Nat):Int)),.ex [0,3] (.slice (some ⟨b,(i+1)*4,none⟩) (n+1 - (i+1)) (G - (i+1))),.ex [] (.slice (some ⟨g,0,none⟩) n c),.ex [] (.int .i64 ((i:Nat):Int)),.ex [5,6] (.slice (some ⟨g,i*4,none⟩) (n - i) (c - i))] 8 (by kernel_rfl) ⟨fun _ _ _ h _=>h,fun _ _ _ h _=>h,fun _ _ _ h _=>h,fun _ _ _ h _=>h,fun _ _ _ h _=>h,fun _ _ _ h _=>h,fun _ _ _ h _=>h,fun _ _ _ h _=>h,trivial⟩ ⟨?_,?_,?_,?_,?_,?_,?_,?_,trivial⟩ ?_
 ·rintro vs wd kd ⟨-⟩
  refine WO.bl (fr':=[(9,.slice (some ⟨b,0,none⟩) (n+1) G)]) ⟨⟨_,rfl,rfl⟩,trivial⟩ ?_
  refine WO.v (R.move rfl) rfl ?_
  refine WO.nil ?_
  exact WX.aH rfl rfl (Kp.refl _)
 ·rintro vs wd kd ⟨-⟩
  refine WO.bl (fr':=[(1,.int .i64 ((i:Nat):Int))]) ⟨⟨_,rfl,rfl⟩,trivial⟩ ?_
  refine WO.v (R.move rfl) rfl ?_
  refine WO.nil ?_
  exact WX.aH rfl rfl (Kp.refl _)
 ·rintro vs wd kd ⟨-⟩
  refine WO.bl (fr':=[(7,.int .i64 ((1:Nat):Int))]) ⟨⟨_,rfl,rfl⟩,trivial⟩ ?_
  refine WO.v (R.move rfl) rfl ?_
  refine WO.nil ?_
  exact WX.aH rfl rfl (Kp.refl _)
 ·rintro vs wd kd ⟨e1,e2,-⟩
  refine WO.bl (fr':=[(47,.int .i64 ((i:Nat):Int)),(48,.int .i64 ((1:Nat):Int))]) ⟨⟨_,rfl,e1⟩,⟨_,rfl,e2⟩,trivial⟩ ?_
  refine WO.v (R.ig rfl rfl (by omega)) rfl ?_
  refine WO.nil ?_
  exact WX.aH rfl rfl (Kp.refl _)
 ·rintro vs wd kd ⟨e0,e3,-⟩
  refine WO.bl (fr':=[(46,.slice (some ⟨b,0,none⟩) (n+1) G),(49,.int .i64 ((i+1:Nat):Int))]) ⟨⟨_,rfl,e0⟩,⟨_,rfl,e3⟩,trivial⟩ ?_
  refine WO.v (R.bW rfl rfl Tryz.underlying22 bZ (dg (by omega)) (by omega)) rfl ?_
  refine WO.nil ?_
  exact WX.aH rfl rfl (Kp.refl _)
 ·rintro vs wd kd ⟨-⟩
  refine WO.bl (fr':=[(0,.slice (some ⟨g,0,none⟩) n c)]) ⟨⟨_,rfl,rfl⟩,trivial⟩ ?_
  refine WO.v (R.move rfl) rfl ?_
  refine WO.nil ?_
  exact WX.aH rfl rfl (Kp.refl _)
 ·rintro vs wd kd ⟨-⟩
  refine WO.bl (fr':=[(1,.int .i64 ((i:Nat):Int))]) ⟨⟨_,rfl,rfl⟩,trivial⟩ ?_
  refine WO.v (R.move rfl) rfl ?_
  refine WO.nil ?_
  exact WX.aH rfl rfl (Kp.refl _)
 ·rintro vs wd kd ⟨e5,e6,-⟩
  refine WO.bl (fr':=[(51,.slice (some ⟨g,0,none⟩) n c),(52,.int .i64 ((i:Nat):Int))]) ⟨⟨_,rfl,e5⟩,⟨_,rfl,e6⟩,trivial⟩ ?_
  refine WO.v (R.bW rfl rfl Tryz.underlying22 bZ (dg (by omega)) (by omega)) rfl ?_
  refine WO.nil ?_
  exact WX.aH rfl rfl (Kp.refl _)
 rintro vsx w1 k1 ⟨-,-,-,-,e4,-,-,e7,-⟩
 replace k1:Kp [] (W1.setRow b (cur.take (i*4)++vs++cur.drop (i*4+vs.length)).toArray) w1:=k1
 refine WO.bl (fr':=[(50,.slice (some ⟨b,(i+1)*4,none⟩) (n+1 - (i+1)) (G - (i+1))),(53,.slice (some ⟨g,i*4,none⟩) (n - i) (c - i)),(9,.slice (some ⟨b,0,none⟩) (n+1) G)]) ⟨⟨_,rfl,e4⟩,⟨_,rfl,e7⟩,⟨_,rfl,rfl⟩,trivial⟩ ?_
 have hb2:w1.heap[b]? = some (.cells (List.toArray (cur.take (i*4)++vs++cur.drop (i*4+vs.length))) 44 (0,0)):=by rw [k1.block b (by simpa using aY hrow) (by simp)]; exact setRow_heap W1 b _ _ 44 _ hrow
 have hd2:CellsAt w1 ⟨g,i*4,none⟩ ds:=(hd.kp (Kp.setRow W1 b _) hgl (by simpa using hgb.symm)).kp k1 (by simpa using hgl) (by simp)
 refine WO.v (R.jS rfl rfl Tryz.underlying22 bZ hb2 hn2 hd2 (by simp only [List.length_append,List.length_take,List.length_drop]; omega) h1d) rfl ?_
 refine WO.nil ?_
 refine WX.next ?_
 refine WC.seq ?_
 refine WC.region ?_
 refine WO.v (R.move rfl) rfl ?_
 refine WO.v (R.assign rfl) rfl ?_
 refine WO.nil ?_
 refine WX.next ?_
 refine WC.ret ?_
 refine WX.gl ?_
 refine WX.rQ rfl rfl ?_
 exact ⟨rfl,w1,k1,rfl⟩
set_option maxRecDepth 100000 in
set_option maxHeartbeats 1000000 in
theorem mN {w:World} {g n i c vc:Nat} {ad:Addr} {cur vs ds:List Value} {curA:Array Value} {tA:TypeId} {fA:Nat × Nat} (hi:i<n) (hc:n+1<=c) (hcm:c<=maxLen)
  (hrow:w.heap[g]? = some (.cells cur.toArray 44 (0,0))) (hcur:(n+1)*4<=cur.length) (hv:CellsAt w ad vs) (hvb:w.heap[ad.block]? = some (.cells curA tA fA)) (hvb0:curA.size≠0) (hne:ad.block≠g) (hvl:vs.length=4) (hd:CellsAt w ⟨g,i*4,none⟩ ds) (hdl:ds.length=(n - i)*4)
  (h1v:∀ u ∈ vs,u.oneCell' = true) (h1d:∀ u ∈ ds,u.oneCell' = true) :
  gz Tryz.prog 36 [.slice (some ⟨g,0,none⟩) n c,.int .i64 (i:Int),.slice (some ad) 1 vc].toArray w fun v w'=>v = .slice (some ⟨g,0,none⟩) (n+1) c/\∃ w1,Kp [] w w1/\w' = (w1.setRow g (cur.take ((i+1)*4)++ds++cur.drop ((i+1)*4+ds.length)).toArray).setRow g ((cur.take ((i+1)*4)++ds++cur.drop ((i+1)*4+ds.length)).take (i*4)++vs++(cur.take ((i+1)*4)++ds++cur.drop ((i+1)*4+ds.length)).drop (i*4+vs.length)).toArray:=by
 have hcm:c<=9223372036854775807:=hcm
 have hn1:vs.length=Nat.min 1 (n+1 - i)*4:=by rw [show Nat.min 1 (n+1 - i)=1 from Nat.min_eq_left (by omega),Nat.one_mul]; exact hvl
 have hn2:ds.length=Nat.min (n+1 - i) (n+1 - (i+1))*4:=by rw [show Nat.min (n+1 - i) (n+1 - (i+1))=n+1 - (i+1) from Nat.min_eq_right (by omega),hdl]; congr 1; omega
 refine gz.enter Tryz.func36 rfl rfl rfl rfl ?_
 refine WC.seq ?_
 refine WC.region ?_
 refine WO.v (R.assign rfl) rfl ?_
 refine WO.nil ?_
 refine WX.next ?_
 refine WC.seq ?_
 refine WC.region ?_
 refine WO.v (R.move rfl) rfl ?_
 refine WO.v (R.move rfl) rfl ?_
 refine WO.v (R.bW rfl rfl Tryz.underlying22 bZ rfl (by omega)) rfl ?_
 refine WO.nil ?_
 refine WX.next ?_
 refine WC.seq ?_
 refine WC.region ?_
 refine WO.v (R.move rfl) rfl ?_
 refine WO.v (R.len rfl Tryz.underlying22) rfl ?_
 refine WO.v (R.assign rfl) rfl ?_
 refine WO.nil ?_
 refine WX.next ?_
 refine WC.seq ?_
 refine WC.seq ?_
 refine WC.region ?_
 refine WO.v (R.move rfl) rfl ?_
 refine WO.v (R.eql rfl rfl) rfl ?_
 refine WO.nil ?_
 refine WX.next ?_
 refine WC.cond rfl (fun q=>absurd (of_decide_eq_true q) (by omega)) (fun _=>?_)
 refine WC.skip ?_
 refine WX.next ?_
 refine WC.seq ?_
 refine WC.region ?_
 refine WO.v (R.move rfl) rfl ?_
 refine WO.v (R.len rfl Tryz.underlying22) rfl ?_
 refine WO.v (R.assign rfl) rfl ?_
 refine WO.nil ?_
 refine WX.next ?_
 refine WC.seq ?_
 refine WC.seq ?_
 refine WC.region ?_
 refine WO.v (R.move rfl) rfl ?_
 refine WO.v (R.move rfl) rfl ?_
 refine WO.v (R.eql rfl rfl) rfl ?_
 refine WO.nil ?_
 refine WX.next ?_
 refine WC.cond rfl (fun q=>absurd (of_decide_eq_true q) (by omega)) (fun _=>?_)
 refine WC.skip ?_
 refine WX.next ?_
 refine WC.seq ?_
 refine WC.seq ?_
 refine WC.region ?_
 refine WO.v (R.move rfl) rfl ?_
 refine WO.v (R.move rfl) rfl ?_
 refine WO.v (R.ig rfl rfl (by omega)) rfl ?_
 refine WO.v (R.move rfl) rfl ?_
 refine WO.v (R.Af rfl Tryz.underlying22) rfl ?_
 refine WO.v (R.gtr rfl rfl) rfl ?_
 refine WO.nil ?_
 refine WX.next ?_
 refine WC.cond rfl (fun q=>absurd (of_decide_eq_true q) (by omega)) (fun _=>?_)
 refine WC.skip ?_
 refine WX.next ?_
 refine WC.seq ?_
 refine WC.region ?_
 refine WO.v (R.move rfl) rfl ?_
 refine WO.v (R.move rfl) rfl ?_
 refine WO.v (R.move rfl) rfl ?_
 refine WO.v (R.ig rfl rfl (by omega)) rfl ?_
 refine WO.v (R.ja rfl rfl Tryz.underlying22 bZ (dg (i:=0) (by omega)) (by omega)) rfl ?_
 refine WO.v (R.assign rfl) rfl ?_
 refine WO.nil ?_
 refine WX.next ?_
 refine WC.seq ?_
 refine WC.seq ?_
 refine WC.region ?_
 refine WO.v (R.move rfl) rfl ?_
 refine WO.v (R.move rfl) rfl ?_
 refine WO.v (R.move rfl) rfl ?_
 refine WO.v (R.move rfl) rfl ?_
 refine WO.v (R.ig rfl rfl (by omega)) rfl ?_
 refine WO.v (R.bW rfl rfl Tryz.underlying22 bZ (dg (by omega)) (by omega)) rfl ?_
 refine WO.v (R.HI (tS:=22) (tR:=4) Tryz.func87 rfl rfl (by kernel_rfl) (by kernel_rfl) Tryz.underlying22 bZ hne hvb hvb0 hrow rfl rfl) rfl ?_
 refine WO.v (R.not rfl) rfl ?_
 refine WO.nil ?_
 refine WX.next ?_
 refine WC.xF rfl ?_
 refine WC.seq ?_
 refine WC.nt fB [.ex [] (.slice (some ⟨g,0,none⟩) (n+1) c),.ex [] (.int .i64 ((i:Nat):Int)),.ex [] (.int .i64 ((1:Nat):Int)),.ex [1,2] (.int .i64 ((i+1:Nat):Int)),.ex [0,3] (.slice (some ⟨g,(i+1)*4,none⟩) (n+1 - (i+1)) (c - (i+1))),.ex [] (.slice (some ⟨g,0,none⟩) (n+1) c),.ex [] (.int .i64 ((i:Nat):Int)),.ex [5,6] (.slice (some ⟨g,i*4,none⟩) (n+1 - i) (c - i))] 8 (by kernel_rfl) ⟨fun _ _ _ h _=>h,fun _ _ _ h _=>h,fun _ _ _ h _=>h,fun _ _ _ h _=>h,fun _ _ _ h _=>h,fun _ _ _ h _=>h,fun _ _ _ h _=>h,fun _ _ _ h _=>h,trivial⟩ ⟨?_,?_,?_,?_,?_,?_,?_,?_,trivial⟩ ?_
 ·rintro vs wd kd ⟨-⟩
  refine WO.bl (fr':=[(0,.slice (some ⟨g,0,none⟩) (n+1) c)]) ⟨⟨_,rfl,rfl⟩,trivial⟩ ?_
  refine WO.v (R.move rfl) rfl ?_
  refine WO.nil ?_
  exact WX.aH rfl rfl (Kp.refl _)
 ·rintro vs wd kd ⟨-⟩
  refine WO.bl (fr':=[(1,.int .i64 ((i:Nat):Int))]) ⟨⟨_,rfl,rfl⟩,trivial⟩ ?_
  refine WO.v (R.move rfl) rfl ?_
  refine WO.nil ?_
  exact WX.aH rfl rfl (Kp.refl _)
 ·rintro vs wd kd ⟨-⟩
  refine WO.bl (fr':=[(7,.int .i64 ((1:Nat):Int))]) ⟨⟨_,rfl,rfl⟩,trivial⟩ ?_
  refine WO.v (R.move rfl) rfl ?_
  refine WO.nil ?_
  exact WX.aH rfl rfl (Kp.refl _)
 ·rintro vs wd kd ⟨e1,e2,-⟩
  refine WO.bl (fr':=[(70,.int .i64 ((i:Nat):Int)),(71,.int .i64 ((1:Nat):Int))]) ⟨⟨_,rfl,e1⟩,⟨_,rfl,e2⟩,trivial⟩ ?_
  refine WO.v (R.ig rfl rfl (by omega)) rfl ?_
  refine WO.nil ?_
  exact WX.aH rfl rfl (Kp.refl _)
 ·rintro vs wd kd ⟨e0,e3,-⟩
  refine WO.bl (fr':=[(69,.slice (some ⟨g,0,none⟩) (n+1) c),(72,.int .i64 ((i+1:Nat):Int))]) ⟨⟨_,rfl,e0⟩,⟨_,rfl,e3⟩,trivial⟩ ?_
  refine WO.v (R.bW rfl rfl Tryz.underlying22 bZ (dg (by omega)) (by omega)) rfl ?_
  refine WO.nil ?_
  exact WX.aH rfl rfl (Kp.refl _)
 ·rintro vs wd kd ⟨-⟩
  refine WO.bl (fr':=[(0,.slice (some ⟨g,0,none⟩) (n+1) c)]) ⟨⟨_,rfl,rfl⟩,trivial⟩ ?_
  refine WO.v (R.move rfl) rfl ?_
  refine WO.nil ?_
  exact WX.aH rfl rfl (Kp.refl _)
 ·rintro vs wd kd ⟨-⟩
  refine WO.bl (fr':=[(1,.int .i64 ((i:Nat):Int))]) ⟨⟨_,rfl,rfl⟩,trivial⟩ ?_
  refine WO.v (R.move rfl) rfl ?_
  refine WO.nil ?_
  exact WX.aH rfl rfl (Kp.refl _)
 ·rintro vs wd kd ⟨e5,e6,-⟩
  refine WO.bl (fr':=[(74,.slice (some ⟨g,0,none⟩) (n+1) c),(75,.int .i64 ((i:Nat):Int))]) ⟨⟨_,rfl,e5⟩,⟨_,rfl,e6⟩,trivial⟩ ?_
  refine WO.v (R.bW rfl rfl Tryz.underlying22 bZ (dg (by omega)) (by omega)) rfl ?_
  refine WO.nil ?_
  exact WX.aH rfl rfl (Kp.refl _)
 rintro vsx w1 k1 ⟨-,-,-,-,e4,-,-,e7,-⟩
 replace k1:Kp [] w w1:=k1
 refine WO.bl (fr':=[(73,.slice (some ⟨g,(i+1)*4,none⟩) (n+1 - (i+1)) (c - (i+1))),(76,.slice (some ⟨g,i*4,none⟩) (n+1 - i) (c - i)),(0,.slice (some ⟨g,0,none⟩) (n+1) c),(1,.int .i64 ((i:Nat):Int)),(2,.slice (some ad) 1 vc)]) ⟨⟨_,rfl,e4⟩,⟨_,rfl,e7⟩,⟨_,rfl,rfl⟩,⟨_,rfl,rfl⟩,⟨_,rfl,rfl⟩,trivial⟩ ?_
 have hg1:w1.heap[g]? = some (.cells (List.toArray cur) 44 (0,0)):=by rw [k1.block g (aY hrow) (by simp)]; exact hrow
 refine WO.v (R.jS rfl rfl Tryz.underlying22 bZ hg1 hn2 (hd.kp k1 (aY hrow) (by simp)) (by omega) h1d) rfl ?_
 refine WO.nil ?_
 refine WX.next ?_
 have hg2:(w1.setRow g (cur.take ((i+1)*4)++ds++cur.drop ((i+1)*4+ds.length)).toArray).heap[g]? = some (.cells (List.toArray (cur.take ((i+1)*4)++ds++cur.drop ((i+1)*4+ds.length))) 44 (0,0)):=setRow_heap w1 g _ _ 44 _ hg1
 have hv2:CellsAt (w1.setRow g (cur.take ((i+1)*4)++ds++cur.drop ((i+1)*4+ds.length)).toArray) ad vs:=(hv.kp k1 (aY hvb) (by simp)).kp (Kp.setRow w1 g _) (Nat.lt_of_lt_of_le (aY hvb) k1.size) (by simpa using fun h=>hne h.symm)
 refine WC.seq ?_
 refine WC.region ?_
 refine WO.v (R.move rfl) rfl ?_
 refine WO.v (R.move rfl) rfl ?_
 refine WO.v (R.bW rfl rfl Tryz.underlying22 bZ (dg (by omega)) (by omega)) rfl ?_
 refine WO.v (R.move rfl) rfl ?_
 refine WO.v (R.jS rfl rfl Tryz.underlying22 bZ hg2 hn1 hv2 (by simp only [List.length_append,List.length_take,List.length_drop]; omega) h1v) rfl ?_
 refine WO.nil ?_
 refine WX.next ?_
 refine WC.seq ?_
 refine WC.region ?_
 refine WO.v (R.move rfl) rfl ?_
 refine WO.v (R.assign rfl) rfl ?_
 refine WO.nil ?_
 refine WX.next ?_
 refine WC.ret ?_
 refine WX.gl ?_
 refine WX.rQ rfl rfl ?_
 exact ⟨rfl,w1,k1,rfl⟩
theorem qA {G:Gl} {ρ:List RE} {H:AH} {w:World} (hs:G.shp=av aI) (hR:Rep G ρ H w) {l m:List (den (.nm .sess))} (hH:getO H 0 = .row 44 (.nm .sess) l) (hl:l.length<1048576) {i:Nat} (hi:i<=l.length) {v0:Value} (h0:Rd (cx G ρ w) ρ (.own 0) v0)
  {ad:Addr} {k:Nat} {cys:List Value} {bAV:AV} (hm:m.length=1) (hb:Rd (cx G ρ w) ρ bAV (.slice (some ad) 1 k)) (hbv:(bAV.vw H).eH (.nm .sess)=some m) (hv:CellsAt w ad cys) (hvl:cys.length=4) (h1v:∀ u ∈ cys,u.oneCell' = true) (hp:Pds (cx G ρ w) (m.flatMap (cellsOf (.nm .sess))) cys)
  (hne:∀ g c n z,ρ[0]? = some (.row g c n z)->ad.block≠g) {curA:Array Value} {tA:TypeId} {fA:Nat × Nat} (hvb:w.heap[ad.block]? = some (.cells curA tA fA)) (hvb0:curA.size≠0) :
  gz Tryz.prog 36 [v0,.int .i64 (i:Int),.slice (some ad) 1 k].toArray w fun v w'=>∃ ρ',Stp (vQ 0) ρ w ρ' w' /\ Rep G ρ' ((ej (AV.kill 0) H).set 0 (.row 44 (.nm .sess) (l.take i++m++l.drop i))) w' /\ Rd (cx G ρ' w') ρ' (.own 0) v:=by
 have hT:bj Tryz.prog G.shp aI:=hs ▸ fX
 obtain ⟨hshp,hlen⟩:=cM hR hH
 have hl64:l.length<=9223372036854775807:=by omega
 have hin:((l.length:Nat):Int)<=9223372036854775807:=by omega
 by_cases hie:i=l.length
 ·subst hie
  have hc:∃ A c,v0 = .slice A l.length c:=by
   rcases h0 with ⟨g,cap,len,z,h1,rfl⟩ | ⟨h1,a,rfl⟩
   ·rcases bk hR hH with ⟨h2,_⟩ | ⟨g',cap',cells,sp,h2,_⟩
    ·rw [h1] at h2; cases h2
    ·rw [h1] at h2; cases h2; exact ⟨_,_,rfl⟩
   ·rcases bk hR hH with ⟨_,h2⟩ | ⟨g',cap',cells,sp,h2,_⟩
    ·subst h2; exact ⟨_,_,rfl⟩
    ·rw [h1] at h2; cases h2
  obtain ⟨A,c,rfl⟩:=hc
  refine qP fun F x y ty hx hy=>?_
  have happ:fq aI (vQ 0) ([]:AFr) H 22 (.own 0) bAV=some ⟨one (.own 0),[],(ej (AV.kill 0) H).set 0 (.row 44 (.nm .sess) (l++m)),[(l.length+m.length)*(Sh.nm NT.sess).bytes<=140737488355328],[]⟩:=by
   unfold fq
   rw [show bm aI 22=some ⟨.sl 44 (some (.nm .sess)),1,[.em true]⟩ from by kernel_rfl]
   simp only [hbv,hH]
   rfl
  obtain ⟨v,w',h1,ρ',h2,h3,_,h5,_⟩:=fh (P:=Tryz.prog) (n:=95) (F:=[]) (ty:=ty) (fr:=[]) (x:=.const (.slice A l.length c)) (y:=.const (.slice (some ad) 1 k)) hT hR .nil happ (by
   intro p hp
   rw [List.mem_singleton] at hp; subst hp
   show (l.length+m.length)*32<=_
   omega) h0 hb rfl rfl
  refine ⟨v,w',R.tN h1 hx hy,ρ',h2,?_,h5⟩
  rw [List.take_length,List.drop_length,List.append_nil]
  exact h3
 ·have hlt:i<l.length:=by omega
  rcases bk hR hH with ⟨_,h2⟩ | ⟨g,cap,cells,sp,hρ,hg,hpd,hsz,hcap,hmax⟩
  ·subst h2; simp at hlt
  obtain ⟨hnb,hil,hiH⟩:=jF hR hH
  have hv0:v0 = .slice (some ⟨g,0,none⟩) l.length cap:=by
   rcases h0 with ⟨g',cap',len,z,h1,rfl⟩ | ⟨h1,a,rfl⟩
   ·rw [hρ] at h1; cases h1; rfl
   ·rw [hρ] at h1; cases h1
  subst hv0
  have hz:(Sh.nm NT.sess).size=4:=rfl
  have hby:(Sh.nm NT.sess).bytes=32:=rfl
  have hcl:cells.length=l.length*4:=by rw [<- hpd.length,bC,hz]
  rw [hz,List.length_append] at hsz
  have hone:∀ u ∈ cells.drop (i*4),u.oneCell' = true:=fun u hu=>hpd.ye u (List.mem_of_mem_drop hu)
  have hd:CellsAt w ⟨g,i*4,none⟩ (cells.drop (i*4)):=by
   have:=(bR hg).shift (i*4)
   rwa [add_lit,Nat.zero_add] at this
  have hdl:(cells.drop (i*4)).length=(l.length - i)*4:=by rw [List.length_drop,hcl]; omega
  have hgl:=aY hg
  have hzl:(l.take i++m++l.drop i).length=l.length+1:=by
   rw [List.length_append,List.length_append,List.length_take,List.length_drop,hm]; omega
  have hnew:∀ {c:Cx},(cx G ρ w).le c->Pds c ((l.take i++m++l.drop i).flatMap (cellsOf (.nm .sess))) (cells.take (i*4)++cys++cells.drop (i*4)):=fun {c} hle=>by
   rw [List.flatMap_append,List.flatMap_append]
   exact (((bz hpd i).append hp).append (bG hpd i)).carry hle
  have hnl:(cells.take (i*4)++cys++cells.drop (i*4)).length=(l.length+1)*4:=by
   rw [List.length_append,List.length_append,List.length_take,List.length_drop,hcl,hvl]; omega
  have hbig:(l.take i++m++l.drop i).length*(Sh.nm NT.sess).bytes<=140737488355328:=by rw [hzl,hby]; omega
  -- what is shown of any way
  have fin:∀ (S:List Nat) (g2 cap2:Nat) (sp2:List Value) (w':World),Kp S w w' -> (∀ b ∈ S,b=g)->(g2=g\/w.heap.size<=g2)->w'.heap[g2]? = some (.cells (List.toArray (cells.take (i*4)++cys++cells.drop (i*4)++sp2)) 44 (0,0))->(l.length+1)*4+sp2.length=cap2*4->l.length+1<=cap2->cap2<=maxLen ->
    ∃ ρ',Stp (vQ 0) ρ w ρ' w' /\ Rep G ρ' ((ej (AV.kill 0) H).set 0 (.row 44 (.nm .sess) (l.take i++m++l.drop i))) w' /\ Rd (cx G ρ' w') ρ' (.own 0) (.slice (some ⟨g2,0,none⟩) (l.length+1) cap2):=by
   intro S g2 cap2 sp2 w' hk hS hg2 hh hlen2 hle2 hmax2
   obtain ⟨k1,k2,_⟩:=ij (ro:=vQ 0) (s':=.nm .sess) (e':=44) (zs:=l.take i++m++l.drop i) hR hH ⟨rfl,rfl⟩ hk (fun b hb=>⟨_,hρ,by rw [hS b hb]; rfl⟩) (r':=.row g2 cap2 (l.take i++m++l.drop i).length (Sh.nm NT.sess).size) (fun b hb=>by
    cases hb
    rcases hg2 with rfl | hg2
    ·exact .inl ⟨_,hρ,rfl⟩
    ·exact .inr ⟨hg2,aY hh⟩) (fun hle=>⟨hshp,hbig,.inr ⟨g2,cap2,_,sp2,rfl,hh,hnew hle,by rw [List.length_append,hnl,hz]; exact hlen2,by rw [hzl]; exact hle2,hmax2⟩⟩)
   exact ⟨_,k1,k2,.inl ⟨g2,cap2,_,_,List.getElem?_set_self hil,by rw [hzl]⟩⟩
  have eo:(i+1)*4=i*4+4:=by omega
  by_cases hroom:l.length+1<=cap
  ·refine (mN hlt hroom hmax hg (by rw [List.length_append]; omega) hv hvb hvb0 (hne _ _ _ _ hρ) hvl hd hdl h1v hone).mono fun v w' ⟨e1,w1,k1,e2⟩=>?_
   subst e1; subst e2
   rw [eo,Cc (by omega) hvl]
   have hk:Kp [g] w ((w1.setRow g ((cells++sp).take (i*4+4)++cells.drop (i*4)++(cells++sp).drop (i*4+4+(cells.drop (i*4)).length)).toArray).setRow g (cells.take (i*4)++cys++cells.drop (i*4)++sp.drop 4).toArray):=((k1.sub (by simp)).step (Kp.setRow w1 g _) (by simp)).step (Kp.setRow _ g _) (by simp)
   have hg1:w1.heap[g]? = some (.cells (List.toArray (cells++sp)) 44 (0,0)):=by rw [k1.block g hgl (by simp)]; exact hg
   exact fin [g] g cap (sp.drop 4) _ hk (by simp) (.inl rfl) (setRow_heap _ g _ _ 44 _ (setRow_heap w1 g _ _ 44 _ hg1)) (by rw [List.length_drop]; omega) hroom hmax
  ·obtain ⟨ti,hi0,hz0,hz1,hz2⟩:=info_parts ym
   have eik:i+(l.length+1 - i)=l.length+1:=by omega
   have hge:=grownCap_ge w (l.length+1) cap 44
   have hgm:=grownCap_le_maxLen w (l.length+1) cap 44 (by simp [maxLen]; omega)
   have hold:(Builtin.firstCells ti.size i (.slice (some ⟨g,0*4,none⟩) i cap)).run Tryz.prog w.drew = .ok (cells.take (i*4)).toArray w.drew:=by
    have h:=run_loadCells_list (P:=Tryz.prog) w.drew ⟨g,0*4,none⟩ (cells.take (i*4)) (by rw [Nat.zero_mul]; exact (bR hg).take _)
    rw [List.length_take,Nat.min_eq_left (by omega)] at h
    rw [hz1]; exact h
   have happ:∀ (F:Fr) (x y:Operand) (ty:TypeId),ev F x=some (.slice (some ⟨g,0*4,none⟩) i cap)->ev F y=some (.int .i64 ((l.length+1 - i:Nat):Int))->aK Tryz.prog 95 F w (.call { callee:=.builtin .append,args:=#[x,y],argTypes:=#[22,3] }) ty (.slice (some ⟨w.heap.size,0,none⟩) (l.length+1) (grownCap w (l.length+1) cap 44)) (w.drew.alloc (.cells (List.toArray (cells.take (i*4)++((Builtin.zeroCells (Value.agg #[.int .i64 0,.int .i64 0,.int .i64 0,.int .i64 0]).cells (l.length+1 - i)).toList++(Builtin.zeroCells (Value.agg #[.int .i64 0,.int .i64 0,.int .i64 0,.int .i64 0]).cells (grownCap w (l.length+1) cap 44 - (l.length+1))).toList))) 44)):=fun F x y ty hx hy=>by
    have h:=R.FI (P:=Tryz.prog) (n:=95) (ty:=ty) hx hy Tryz.underlying22 Tryz.underlying3 hi0 hz0 hold (by omega) (by rw [hz1]; decide) (by omega) (by omega) (by rw [hz2]; omega) (by rw [hz2,eik]; exact growslice_fits (by omega) (by omega))
    rw [eik] at h
    have e:∀ (a:List Value) (b c:Array Value),a.toArray++b++c=(a++(b.toList++c.toList)).toArray:=fun a b c=>by apply Array.ext'; simp
    rw [e] at h
    exact h
   have hcurl:(cells.take (i*4)++((Builtin.zeroCells (Value.agg #[.int .i64 0,.int .i64 0,.int .i64 0,.int .i64 0]).cells (l.length+1 - i)).toList++(Builtin.zeroCells (Value.agg #[.int .i64 0,.int .i64 0,.int .i64 0,.int .i64 0]).cells (grownCap w (l.length+1) cap 44 - (l.length+1))).toList)).length=grownCap w (l.length+1) cap 44*4:=by
    rw [List.length_append,List.length_append,List.length_take,l_,l_]
    show min _ _+((l.length+1 - i)*4+(grownCap w (l.length+1) cap 44 - (l.length+1))*4)=_
    omega
   have htk:(cells.take (i*4)++((Builtin.zeroCells (Value.agg #[.int .i64 0,.int .i64 0,.int .i64 0,.int .i64 0]).cells (l.length+1 - i)).toList++(Builtin.zeroCells (Value.agg #[.int .i64 0,.int .i64 0,.int .i64 0,.int .i64 0]).cells (grownCap w (l.length+1) cap 44 - (l.length+1))).toList)).take (i*4)=cells.take (i*4):=List.take_left' (by rw [List.length_take]; omega)
   generalize grownCap w (l.length+1) cap 44=GC at *
   generalize cells.take (i*4)++((Builtin.zeroCells (Value.agg #[.int .i64 0,.int .i64 0,.int .i64 0,.int .i64 0]).cells (l.length+1 - i)).toList++(Builtin.zeroCells (Value.agg #[.int .i64 0,.int .i64 0,.int .i64 0,.int .i64 0]).cells (GC - (l.length+1))).toList)=cur at *
   have hK1:Kp [] w (w.drew.alloc (.cells (List.toArray cur) 44)):=((Kp.refl w).drew).step (Kp.alloc w.drew _) (by simp)
   have hrow:(w.drew.alloc (.cells (List.toArray cur) 44)).heap[w.heap.size]? = some (.cells (List.toArray cur) 44 (0,0)):=heap_alloc_new w.drew _
   generalize w.drew.alloc (.cells (List.toArray cur) 44)=W1 at *
   refine (oT hlt hcap (by omega) hmax hge hgm happ hrow (by omega) (hv.kp hK1 (aY hvb) (by simp)) hvl (hd.kp hK1 hgl (by simp)) (by omega) (Nat.lt_of_lt_of_le hgl hK1.size) hdl h1v hone).mono fun v w' ⟨e1,w1,k1,e2⟩=>?_
   subst e1; subst e2
   rw [eo,Co (cells:=cells) (by omega) hvl htk]
   have hs1:∀ b ∈ [w.heap.size],b ∈ ([]:List Nat)\/w.heap.size<=b:=fun b hb=>.inr (by rw [List.mem_singleton] at hb; omega)
   have hk:Kp [] w (w1.setRow w.heap.size (cells.take (i*4)++cys++cells.drop (i*4)++cur.drop (i*4+4+(cells.drop (i*4)).length)).toArray):=((hK1.step (Kp.setRow W1 w.heap.size _) hs1).step k1 (by simp)).step (Kp.setRow w1 w.heap.size _) hs1
   have hg1:=(k1.block w.heap.size (by simpa using aY hrow) (by simp)).trans (setRow_heap W1 w.heap.size _ (cur.take (i*4)++cys++cur.drop (i*4+cys.length)).toArray 44 _ hrow)
   exact fin [] w.heap.size GC _ _ hk (by simp) (.inr (Nat.le_refl _)) (setRow_heap w1 w.heap.size _ _ 44 _ hg1) (by rw [List.length_drop]; omega) hge hgm
theorem ow (i:Int) (l m:List (den (.nm .sess))) (h:0<=i/\i<=(l.length:Int)) (hl:l.length<1048576) (hm:m.length=1):Sat Tryz.prog (av aI) 36 [.c (.own 0),.c (.int i),.c (.own 1)] [.row 44 (.nm .sess) l,.row 44 (.nm .sess) m] ⟨[0<=i/\i<=(l.length:Int),l.length<1048576,m.length=1],[.c (.own 0)],some [.row 44 (.nm .sess) (l.take i.toNat++m++l.drop i.toNat),.row 44 (.nm .sess) m],false⟩:=by
 refine ⟨⟨_,Tryz.func36,by decide,rfl⟩,fun G ρ w vs hs hR hvs=>?_⟩
 obtain ⟨i,rfl⟩:=Int.eq_ofNat_of_zero_le h.1
 cases hvs with | cons h0 hvs=>
 cases hvs with | cons h1 hvs=>
 cases hvs with | cons h2 hvs=>
 cases hvs
 have h1:Pd (cx G ρ w) (.int (i:Int)) _:=h1
 cases h1
 have h0:Rd (cx G ρ w) ρ (.own 0) _:=h0
 have h2:Rd (cx G ρ w) ρ (.own 1) _:=h2
 have hH:getO [AO.row 44 (.nm .sess) l,.row 44 (.nm .sess) m] 0 = .row 44 (.nm .sess) l:=rfl
 have hbv:(AV.vw [AO.row 44 (.nm .sess) l,.row 44 (.nm .sess) m] (.own 1)).eH (.nm .sess)=some m:=by simp [AV.vw,AV.eH,getO]
 obtain ⟨A,k,cys,rfl,s1,s2,s3,s4⟩:=lr hR hbv h2
 rw [hm] at h2 s1 s3
 rw [hm]
 obtain ⟨ad,rfl,s5⟩:∃ ad,A=some ad/\CellsAt w ad cys:=s3.resolve_left (by decide)
 have hz:(Sh.nm NT.sess).size=4:=rfl
 rw [hz] at s1
 obtain ⟨u,hu⟩:∃ u,cys[0]? = some u:=⟨_,List.getElem?_eq_getElem (by omega)⟩
 obtain ⟨cur,t,f,hc,hc0⟩:=nd (s5 0 u hu)
 have hne:∀ g c n z,ρ[0]? = some (.row g c n z)->ad.block≠g:=fun g c n z hg e=>by
  rcases h2 with ⟨g',cap',len,z',h3,h4⟩ | ⟨h3,a,h4⟩
  ·cases h4
   have:=hR.inj 0 1 _ _ g hg h3 rfl (by rw [<- e]; rfl)
   omega
  ·cases h4
 rw [eI] at hc
 refine (qA hs hR hH hl (by omega) h0 hm h2 hbv s5 s1 s2 s4 hne hc hc0).mono fun v w' ⟨ρ',k1,k2,k3⟩=>?_
 exact ⟨[v],rfl,ρ',k2,k1.ext,k1.bx,.cons k3 .nil,fun hb=>by cases hb⟩
theorem cd:(Tryz.prog.info? 77).map (·.size)=some 2:=by kernel_rfl
theorem tp:(Tryz.prog.info? 77).map (fun i=>(i.zero,i.size,i.bytes))=some (some (.agg #[.int .i64 0,.int .i64 0]),2,16):=by kernel_rfl
set_option maxRecDepth 100000 in
set_option maxHeartbeats 1000000 in
theorem rL {w:World} {n c vc:Nat} {A:Option Addr} {B:Option Addr} {φ:Value->World->Prop} (happ:∀ (F:Fr) (x y:Operand) (ty:TypeId),ev F x=some (.slice A n c)->ev F y=some (.slice B 1 vc)->∃ v2 w2,aK Tryz.prog 95 F w (.call { callee:=.builtin .append,args:=#[x,y],argTypes:=#[23,23] }) ty v2 w2/\φ v2 w2) :
  gz Tryz.prog 92 [.slice A n c,.int .i64 (n:Int),.slice B 1 vc].toArray w φ:=by
 refine gz.enter Tryz.func92 rfl rfl rfl rfl ?_
 refine WC.seq ?_
 refine WC.region ?_
 refine WO.v (R.assign rfl) rfl ?_
 refine WO.nil ?_
 refine WX.next ?_
 refine WC.seq ?_
 refine WC.region ?_
 refine WO.v (R.move rfl) rfl ?_
 refine WO.v (R.move rfl) rfl ?_
 refine WO.v (R.bW rfl rfl Tryz.underlying23 cd rfl (by omega)) rfl ?_
 refine WO.nil ?_
 refine WX.next ?_
 refine WC.seq ?_
 refine WC.region ?_
 refine WO.v (R.move rfl) rfl ?_
 refine WO.v (R.len rfl Tryz.underlying23) rfl ?_
 refine WO.v (R.assign rfl) rfl ?_
 refine WO.nil ?_
 refine WX.next ?_
 refine WC.seq ?_
 refine WC.seq ?_
 refine WC.region ?_
 refine WO.v (R.move rfl) rfl ?_
 refine WO.v (R.eql rfl rfl) rfl ?_
 refine WO.nil ?_
 refine WX.next ?_
 refine WC.cond rfl (fun q=>absurd (of_decide_eq_true q) (by omega)) (fun _=>?_)
 refine WC.skip ?_
 refine WX.next ?_
 refine WC.seq ?_
 refine WC.region ?_
 refine WO.v (R.move rfl) rfl ?_
 refine WO.v (R.len rfl Tryz.underlying23) rfl ?_
 refine WO.v (R.assign rfl) rfl ?_
 refine WO.nil ?_
 refine WX.next ?_
 refine WC.seq ?_
 refine WC.seq ?_
 refine WC.region ?_
 refine WO.v (R.move rfl) rfl ?_
 refine WO.v (R.move rfl) rfl ?_
 refine WO.v (R.eql rfl rfl) rfl ?_
 refine WO.nil ?_
 refine WX.next ?_
 refine WC.cond rfl (fun _=>?_) (fun q=>absurd rfl (of_decide_eq_false q))
 refine WC.seq ?_
 refine WC.region ?_
 refine WO.v (R.move rfl) rfl ?_
 refine WO.v (R.move rfl) rfl ?_
 refine WO.ve (happ _ _ _ _ rfl rfl) rfl fun v2 w2 hv2=>?_
 refine WO.v (R.assign rfl) rfl ?_
 refine WO.nil ?_
 refine WX.next ?_
 refine WC.ret ?_
 refine WX.gl ?_
 refine WX.rQ rfl rfl ?_
 exact hv2
set_option maxRecDepth 100000 in
set_option maxHeartbeats 1000000 in
theorem qF {w W1:World} {g b n i c vc G:Nat} {ad:Addr} {cur vs ds:List Value} (hi:i<n) (hnc:n<=c) (hc:c<n+1) (hcm:c<=maxLen) (hG:n+1<=G) (hGm:G<=maxLen)
  (happ:∀ (F:Fr) (x y:Operand) (ty:TypeId),ev F x=some (.slice (some ⟨g,0*2,none⟩) i c)->ev F y=some (.int .i64 ((n+1 - i:Nat):Int))->aK Tryz.prog 95 F w (.call { callee:=.builtin .append,args:=#[x,y],argTypes:=#[23,3] }) ty (.slice (some ⟨b,0,none⟩) (n+1) G) W1)
  (hrow:W1.heap[b]? = some (.cells cur.toArray 77 (0,0))) (hcur:(n+1)*2<=cur.length) (hv:CellsAt W1 ad vs) (hvl:vs.length=2) (hd:CellsAt W1 ⟨g,i*2,none⟩ ds) (hgb:g≠b) (hgl:g<W1.heap.size) (hdl:ds.length=(n - i)*2)
  (h1v:∀ u ∈ vs,u.oneCell' = true) (h1d:∀ u ∈ ds,u.oneCell' = true) :
  gz Tryz.prog 92 [.slice (some ⟨g,0,none⟩) n c,.int .i64 (i:Int),.slice (some ad) 1 vc].toArray w fun v w'=>v = .slice (some ⟨b,0,none⟩) (n+1) G/\∃ w1,Kp [] (W1.setRow b (cur.take (i*2)++vs++cur.drop (i*2+vs.length)).toArray) w1/\w' = w1.setRow b ((cur.take (i*2)++vs++cur.drop (i*2+vs.length)).take ((i+1)*2)++ds++(cur.take (i*2)++vs++cur.drop (i*2+vs.length)).drop ((i+1)*2+ds.length)).toArray:=by
 have hGm:G<=9223372036854775807:=hGm
 have hcm:c<=9223372036854775807:=hcm
 have hn1:vs.length=Nat.min 1 (n+1 - i)*2:=by rw [show Nat.min 1 (n+1 - i)=1 from Nat.min_eq_left (by omega),Nat.one_mul]; exact hvl
 have hn2:ds.length=Nat.min (n - i) (n+1 - (i+1))*2:=by rw [show Nat.min (n - i) (n+1 - (i+1))=n - i from Nat.min_eq_left (by omega)]; exact hdl
 refine gz.enter Tryz.func92 rfl rfl rfl rfl ?_
 refine WC.seq ?_
 refine WC.region ?_
 refine WO.v (R.assign rfl) rfl ?_
 refine WO.nil ?_
 refine WX.next ?_
 refine WC.seq ?_
 refine WC.region ?_
 refine WO.v (R.move rfl) rfl ?_
 refine WO.v (R.move rfl) rfl ?_
 refine WO.v (R.bW rfl rfl Tryz.underlying23 cd rfl (by omega)) rfl ?_
 refine WO.nil ?_
 refine WX.next ?_
 refine WC.seq ?_
 refine WC.region ?_
 refine WO.v (R.move rfl) rfl ?_
 refine WO.v (R.len rfl Tryz.underlying23) rfl ?_
 refine WO.v (R.assign rfl) rfl ?_
 refine WO.nil ?_
 refine WX.next ?_
 refine WC.seq ?_
 refine WC.seq ?_
 refine WC.region ?_
 refine WO.v (R.move rfl) rfl ?_
 refine WO.v (R.eql rfl rfl) rfl ?_
 refine WO.nil ?_
 refine WX.next ?_
 refine WC.cond rfl (fun q=>absurd (of_decide_eq_true q) (by omega)) (fun _=>?_)
 refine WC.skip ?_
 refine WX.next ?_
 refine WC.seq ?_
 refine WC.region ?_
 refine WO.v (R.move rfl) rfl ?_
 refine WO.v (R.len rfl Tryz.underlying23) rfl ?_
 refine WO.v (R.assign rfl) rfl ?_
 refine WO.nil ?_
 refine WX.next ?_
 refine WC.seq ?_
 refine WC.seq ?_
 refine WC.region ?_
 refine WO.v (R.move rfl) rfl ?_
 refine WO.v (R.move rfl) rfl ?_
 refine WO.v (R.eql rfl rfl) rfl ?_
 refine WO.nil ?_
 refine WX.next ?_
 refine WC.cond rfl (fun q=>absurd (of_decide_eq_true q) (by omega)) (fun _=>?_)
 refine WC.skip ?_
 refine WX.next ?_
 refine WC.seq ?_
 refine WC.seq ?_
 refine WC.region ?_
 refine WO.v (R.move rfl) rfl ?_
 refine WO.v (R.move rfl) rfl ?_
 refine WO.v (R.ig rfl rfl (by omega)) rfl ?_
 refine WO.v (R.move rfl) rfl ?_
 refine WO.v (R.Af rfl Tryz.underlying23) rfl ?_
 refine WO.v (R.gtr rfl rfl) rfl ?_
 refine WO.nil ?_
 refine WX.next ?_
 refine WC.cond rfl (fun _=>?_) (fun q=>absurd (by omega) (of_decide_eq_false q))
 refine WC.seq ?_
 refine WC.region ?_
 refine WO.v (R.move rfl) rfl ?_
 refine WO.v (R.move rfl) rfl ?_
 refine WO.v (R.ja rfl rfl Tryz.underlying23 cd (dg (i:=0) (by omega)) (by omega)) rfl ?_
 refine WO.v (R.move rfl) rfl ?_
 refine WO.v (R.move rfl) rfl ?_
 refine WO.v (R.ig rfl rfl (by omega)) rfl ?_
 refine WO.v (R.move rfl) rfl ?_
 refine WO.v (R.Fg rfl rfl (by omega) (by omega)) rfl ?_
 refine WO.v (happ _ _ _ _ rfl rfl) rfl ?_
 refine WO.v (R.assign rfl) rfl ?_
 refine WO.nil ?_
 refine WX.next ?_
 refine WC.seq ?_
 refine WC.region ?_
 refine WO.v (R.move rfl) rfl ?_
 refine WO.v (R.move rfl) rfl ?_
 refine WO.v (R.bW rfl rfl Tryz.underlying23 cd (dg (by omega)) (by omega)) rfl ?_
 refine WO.v (R.move rfl) rfl ?_
 refine WO.v (R.jS rfl rfl Tryz.underlying23 cd hrow hn1 hv (by omega) h1v) rfl ?_
 refine WO.nil ?_
 refine WX.next ?_
 refine WC.seq ?_
 refine WC.nt fB [.ex [] (.slice (some ⟨b,0,none⟩) (n+1) G),.ex [] (.int .i64 ((i:Nat):Int)),.ex [] (.int .i64 ((1:Nat):Int)),.ex [1,2] (.int .i64 ((i+1:Nat):Int)),.ex [0,3] (.slice (some ⟨b,(i+1)*2,none⟩) (n+1 - (i+1)) (G - (i+1))),.ex [] (.slice (some ⟨g,0,none⟩) n c),.ex [] (.int .i64 ((i:Nat):Int)),.ex [5,6] (.slice (some ⟨g,i*2,none⟩) (n - i) (c - i))] 8 (by kernel_rfl) ⟨fun _ _ _ h _=>h,fun _ _ _ h _=>h,fun _ _ _ h _=>h,fun _ _ _ h _=>h,fun _ _ _ h _=>h,fun _ _ _ h _=>h,fun _ _ _ h _=>h,fun _ _ _ h _=>h,trivial⟩ ⟨?_,?_,?_,?_,?_,?_,?_,?_,trivial⟩ ?_
 ·rintro vs wd kd ⟨-⟩
  refine WO.bl (fr':=[(9,.slice (some ⟨b,0,none⟩) (n+1) G)]) ⟨⟨_,rfl,rfl⟩,trivial⟩ ?_
  refine WO.v (R.move rfl) rfl ?_
  refine WO.nil ?_
  exact WX.aH rfl rfl (Kp.refl _)
 ·rintro vs wd kd ⟨-⟩
  refine WO.bl (fr':=[(1,.int .i64 ((i:Nat):Int))]) ⟨⟨_,rfl,rfl⟩,trivial⟩ ?_
  refine WO.v (R.move rfl) rfl ?_
  refine WO.nil ?_
  exact WX.aH rfl rfl (Kp.refl _)
 ·rintro vs wd kd ⟨-⟩
  refine WO.bl (fr':=[(7,.int .i64 ((1:Nat):Int))]) ⟨⟨_,rfl,rfl⟩,trivial⟩ ?_
  refine WO.v (R.move rfl) rfl ?_
  refine WO.nil ?_
  exact WX.aH rfl rfl (Kp.refl _)
 ·rintro vs wd kd ⟨e1,e2,-⟩
  refine WO.bl (fr':=[(47,.int .i64 ((i:Nat):Int)),(48,.int .i64 ((1:Nat):Int))]) ⟨⟨_,rfl,e1⟩,⟨_,rfl,e2⟩,trivial⟩ ?_
  refine WO.v (R.ig rfl rfl (by omega)) rfl ?_
  refine WO.nil ?_
  exact WX.aH rfl rfl (Kp.refl _)
 ·rintro vs wd kd ⟨e0,e3,-⟩
  refine WO.bl (fr':=[(46,.slice (some ⟨b,0,none⟩) (n+1) G),(49,.int .i64 ((i+1:Nat):Int))]) ⟨⟨_,rfl,e0⟩,⟨_,rfl,e3⟩,trivial⟩ ?_
  refine WO.v (R.bW rfl rfl Tryz.underlying23 cd (dg (by omega)) (by omega)) rfl ?_
  refine WO.nil ?_
  exact WX.aH rfl rfl (Kp.refl _)
 ·rintro vs wd kd ⟨-⟩
  refine WO.bl (fr':=[(0,.slice (some ⟨g,0,none⟩) n c)]) ⟨⟨_,rfl,rfl⟩,trivial⟩ ?_
  refine WO.v (R.move rfl) rfl ?_
  refine WO.nil ?_
  exact WX.aH rfl rfl (Kp.refl _)
 ·rintro vs wd kd ⟨-⟩
  refine WO.bl (fr':=[(1,.int .i64 ((i:Nat):Int))]) ⟨⟨_,rfl,rfl⟩,trivial⟩ ?_
  refine WO.v (R.move rfl) rfl ?_
  refine WO.nil ?_
  exact WX.aH rfl rfl (Kp.refl _)
 ·rintro vs wd kd ⟨e5,e6,-⟩
  refine WO.bl (fr':=[(51,.slice (some ⟨g,0,none⟩) n c),(52,.int .i64 ((i:Nat):Int))]) ⟨⟨_,rfl,e5⟩,⟨_,rfl,e6⟩,trivial⟩ ?_
  refine WO.v (R.bW rfl rfl Tryz.underlying23 cd (dg (by omega)) (by omega)) rfl ?_
  refine WO.nil ?_
  exact WX.aH rfl rfl (Kp.refl _)
 rintro vsx w1 k1 ⟨-,-,-,-,e4,-,-,e7,-⟩
 replace k1:Kp [] (W1.setRow b (cur.take (i*2)++vs++cur.drop (i*2+vs.length)).toArray) w1:=k1
 refine WO.bl (fr':=[(50,.slice (some ⟨b,(i+1)*2,none⟩) (n+1 - (i+1)) (G - (i+1))),(53,.slice (some ⟨g,i*2,none⟩) (n - i) (c - i)),(9,.slice (some ⟨b,0,none⟩) (n+1) G)]) ⟨⟨_,rfl,e4⟩,⟨_,rfl,e7⟩,⟨_,rfl,rfl⟩,trivial⟩ ?_
 have hb2:w1.heap[b]? = some (.cells (List.toArray (cur.take (i*2)++vs++cur.drop (i*2+vs.length))) 77 (0,0)):=by rw [k1.block b (by simpa using aY hrow) (by simp)]; exact setRow_heap W1 b _ _ 77 _ hrow
 have hd2:CellsAt w1 ⟨g,i*2,none⟩ ds:=(hd.kp (Kp.setRow W1 b _) hgl (by simpa using hgb.symm)).kp k1 (by simpa using hgl) (by simp)
 refine WO.v (R.jS rfl rfl Tryz.underlying23 cd hb2 hn2 hd2 (by simp only [List.length_append,List.length_take,List.length_drop]; omega) h1d) rfl ?_
 refine WO.nil ?_
 refine WX.next ?_
 refine WC.seq ?_
 refine WC.region ?_
 refine WO.v (R.move rfl) rfl ?_
 refine WO.v (R.assign rfl) rfl ?_
 refine WO.nil ?_
 refine WX.next ?_
 refine WC.ret ?_
 refine WX.gl ?_
 refine WX.rQ rfl rfl ?_
 exact ⟨rfl,w1,k1,rfl⟩
set_option maxRecDepth 100000 in
set_option maxHeartbeats 1000000 in
theorem nW {w:World} {g n i c vc:Nat} {ad:Addr} {cur vs ds:List Value} {curA:Array Value} {tA:TypeId} {fA:Nat × Nat} (hi:i<n) (hc:n+1<=c) (hcm:c<=maxLen)
  (hrow:w.heap[g]? = some (.cells cur.toArray 77 (0,0))) (hcur:(n+1)*2<=cur.length) (hv:CellsAt w ad vs) (hvb:w.heap[ad.block]? = some (.cells curA tA fA)) (hvb0:curA.size≠0) (hne:ad.block≠g) (hvl:vs.length=2) (hd:CellsAt w ⟨g,i*2,none⟩ ds) (hdl:ds.length=(n - i)*2)
  (h1v:∀ u ∈ vs,u.oneCell' = true) (h1d:∀ u ∈ ds,u.oneCell' = true) :
  gz Tryz.prog 92 [.slice (some ⟨g,0,none⟩) n c,.int .i64 (i:Int),.slice (some ad) 1 vc].toArray w fun v w'=>v = .slice (some ⟨g,0,none⟩) (n+1) c/\∃ w1,Kp [] w w1/\w' = (w1.setRow g (cur.take ((i+1)*2)++ds++cur.drop ((i+1)*2+ds.length)).toArray).setRow g ((cur.take ((i+1)*2)++ds++cur.drop ((i+1)*2+ds.length)).take (i*2)++vs++(cur.take ((i+1)*2)++ds++cur.drop ((i+1)*2+ds.length)).drop (i*2+vs.length)).toArray:=by
 have hcm:c<=9223372036854775807:=hcm
 have hn1:vs.length=Nat.min 1 (n+1 - i)*2:=by rw [show Nat.min 1 (n+1 - i)=1 from Nat.min_eq_left (by omega),Nat.one_mul]; exact hvl
 have hn2:ds.length=Nat.min (n+1 - i) (n+1 - (i+1))*2:=by rw [show Nat.min (n+1 - i) (n+1 - (i+1))=n+1 - (i+1) from Nat.min_eq_right (by omega),hdl]; congr 1; omega
 refine gz.enter Tryz.func92 rfl rfl rfl rfl ?_
 refine WC.seq ?_
 refine WC.region ?_
 refine WO.v (R.assign rfl) rfl ?_
 refine WO.nil ?_
 refine WX.next ?_
 refine WC.seq ?_
 refine WC.region ?_
 refine WO.v (R.move rfl) rfl ?_
 refine WO.v (R.move rfl) rfl ?_
 refine WO.v (R.bW rfl rfl Tryz.underlying23 cd rfl (by omega)) rfl ?_
 refine WO.nil ?_
 refine WX.next ?_
 refine WC.seq ?_
 refine WC.region ?_
 refine WO.v (R.move rfl) rfl ?_
 refine WO.v (R.len rfl Tryz.underlying23) rfl ?_
 refine WO.v (R.assign rfl) rfl ?_
 refine WO.nil ?_
 refine WX.next ?_
 refine WC.seq ?_
 refine WC.seq ?_
 refine WC.region ?_
 refine WO.v (R.move rfl) rfl ?_
 refine WO.v (R.eql rfl rfl) rfl ?_
 refine WO.nil ?_
 refine WX.next ?_
 refine WC.cond rfl (fun q=>absurd (of_decide_eq_true q) (by omega)) (fun _=>?_)
 refine WC.skip ?_
 refine WX.next ?_
 refine WC.seq ?_
 refine WC.region ?_
 refine WO.v (R.move rfl) rfl ?_
 refine WO.v (R.len rfl Tryz.underlying23) rfl ?_
 refine WO.v (R.assign rfl) rfl ?_
 refine WO.nil ?_
 refine WX.next ?_
 refine WC.seq ?_
 refine WC.seq ?_
 refine WC.region ?_
 refine WO.v (R.move rfl) rfl ?_
 refine WO.v (R.move rfl) rfl ?_
 refine WO.v (R.eql rfl rfl) rfl ?_
 refine WO.nil ?_
 refine WX.next ?_
 refine WC.cond rfl (fun q=>absurd (of_decide_eq_true q) (by omega)) (fun _=>?_)
 refine WC.skip ?_
 refine WX.next ?_
 refine WC.seq ?_
 refine WC.seq ?_
 refine WC.region ?_
 refine WO.v (R.move rfl) rfl ?_
 refine WO.v (R.move rfl) rfl ?_
 refine WO.v (R.ig rfl rfl (by omega)) rfl ?_
 refine WO.v (R.move rfl) rfl ?_
 refine WO.v (R.Af rfl Tryz.underlying23) rfl ?_
 refine WO.v (R.gtr rfl rfl) rfl ?_
 refine WO.nil ?_
 refine WX.next ?_
 refine WC.cond rfl (fun q=>absurd (of_decide_eq_true q) (by omega)) (fun _=>?_)
 refine WC.skip ?_
 refine WX.next ?_
 refine WC.seq ?_
 refine WC.region ?_
 refine WO.v (R.move rfl) rfl ?_
 refine WO.v (R.move rfl) rfl ?_
 refine WO.v (R.move rfl) rfl ?_
 refine WO.v (R.ig rfl rfl (by omega)) rfl ?_
 refine WO.v (R.ja rfl rfl Tryz.underlying23 cd (dg (i:=0) (by omega)) (by omega)) rfl ?_
 refine WO.v (R.assign rfl) rfl ?_
 refine WO.nil ?_
 refine WX.next ?_
 refine WC.seq ?_
 refine WC.seq ?_
 refine WC.region ?_
 refine WO.v (R.move rfl) rfl ?_
 refine WO.v (R.move rfl) rfl ?_
 refine WO.v (R.move rfl) rfl ?_
 refine WO.v (R.move rfl) rfl ?_
 refine WO.v (R.ig rfl rfl (by omega)) rfl ?_
 refine WO.v (R.bW rfl rfl Tryz.underlying23 cd (dg (by omega)) (by omega)) rfl ?_
 refine WO.v (R.HI (tS:=23) (tR:=4) Tryz.func124 rfl rfl (by kernel_rfl) (by kernel_rfl) Tryz.underlying23 cd hne hvb hvb0 hrow rfl rfl) rfl ?_
 refine WO.v (R.not rfl) rfl ?_
 refine WO.nil ?_
 refine WX.next ?_
 refine WC.xF rfl ?_
 refine WC.seq ?_
 refine WC.nt fB [.ex [] (.slice (some ⟨g,0,none⟩) (n+1) c),.ex [] (.int .i64 ((i:Nat):Int)),.ex [] (.int .i64 ((1:Nat):Int)),.ex [1,2] (.int .i64 ((i+1:Nat):Int)),.ex [0,3] (.slice (some ⟨g,(i+1)*2,none⟩) (n+1 - (i+1)) (c - (i+1))),.ex [] (.slice (some ⟨g,0,none⟩) (n+1) c),.ex [] (.int .i64 ((i:Nat):Int)),.ex [5,6] (.slice (some ⟨g,i*2,none⟩) (n+1 - i) (c - i))] 8 (by kernel_rfl) ⟨fun _ _ _ h _=>h,fun _ _ _ h _=>h,fun _ _ _ h _=>h,fun _ _ _ h _=>h,fun _ _ _ h _=>h,fun _ _ _ h _=>h,fun _ _ _ h _=>h,fun _ _ _ h _=>h,trivial⟩ ⟨?_,?_,?_,?_,?_,?_,?_,?_,trivial⟩ ?_
 ·rintro vs wd kd ⟨-⟩
  refine WO.bl (fr':=[(0,.slice (some ⟨g,0,none⟩) (n+1) c)]) ⟨⟨_,rfl,rfl⟩,trivial⟩ ?_
  refine WO.v (R.move rfl) rfl ?_
  refine WO.nil ?_
  exact WX.aH rfl rfl (Kp.refl _)
 ·rintro vs wd kd ⟨-⟩
  refine WO.bl (fr':=[(1,.int .i64 ((i:Nat):Int))]) ⟨⟨_,rfl,rfl⟩,trivial⟩ ?_
  refine WO.v (R.move rfl) rfl ?_
  refine WO.nil ?_
  exact WX.aH rfl rfl (Kp.refl _)
 ·rintro vs wd kd ⟨-⟩
  refine WO.bl (fr':=[(7,.int .i64 ((1:Nat):Int))]) ⟨⟨_,rfl,rfl⟩,trivial⟩ ?_
  refine WO.v (R.move rfl) rfl ?_
  refine WO.nil ?_
  exact WX.aH rfl rfl (Kp.refl _)
 ·rintro vs wd kd ⟨e1,e2,-⟩
  refine WO.bl (fr':=[(70,.int .i64 ((i:Nat):Int)),(71,.int .i64 ((1:Nat):Int))]) ⟨⟨_,rfl,e1⟩,⟨_,rfl,e2⟩,trivial⟩ ?_
  refine WO.v (R.ig rfl rfl (by omega)) rfl ?_
  refine WO.nil ?_
  exact WX.aH rfl rfl (Kp.refl _)
 ·rintro vs wd kd ⟨e0,e3,-⟩
  refine WO.bl (fr':=[(69,.slice (some ⟨g,0,none⟩) (n+1) c),(72,.int .i64 ((i+1:Nat):Int))]) ⟨⟨_,rfl,e0⟩,⟨_,rfl,e3⟩,trivial⟩ ?_
  refine WO.v (R.bW rfl rfl Tryz.underlying23 cd (dg (by omega)) (by omega)) rfl ?_
  refine WO.nil ?_
  exact WX.aH rfl rfl (Kp.refl _)
 ·rintro vs wd kd ⟨-⟩
  refine WO.bl (fr':=[(0,.slice (some ⟨g,0,none⟩) (n+1) c)]) ⟨⟨_,rfl,rfl⟩,trivial⟩ ?_
  refine WO.v (R.move rfl) rfl ?_
  refine WO.nil ?_
  exact WX.aH rfl rfl (Kp.refl _)
 ·rintro vs wd kd ⟨-⟩
  refine WO.bl (fr':=[(1,.int .i64 ((i:Nat):Int))]) ⟨⟨_,rfl,rfl⟩,trivial⟩ ?_
  refine WO.v (R.move rfl) rfl ?_
  refine WO.nil ?_
  exact WX.aH rfl rfl (Kp.refl _)
 ·rintro vs wd kd ⟨e5,e6,-⟩
  refine WO.bl (fr':=[(74,.slice (some ⟨g,0,none⟩) (n+1) c),(75,.int .i64 ((i:Nat):Int))]) ⟨⟨_,rfl,e5⟩,⟨_,rfl,e6⟩,trivial⟩ ?_
  refine WO.v (R.bW rfl rfl Tryz.underlying23 cd (dg (by omega)) (by omega)) rfl ?_
  refine WO.nil ?_
  exact WX.aH rfl rfl (Kp.refl _)
 rintro vsx w1 k1 ⟨-,-,-,-,e4,-,-,e7,-⟩
 replace k1:Kp [] w w1:=k1
 refine WO.bl (fr':=[(73,.slice (some ⟨g,(i+1)*2,none⟩) (n+1 - (i+1)) (c - (i+1))),(76,.slice (some ⟨g,i*2,none⟩) (n+1 - i) (c - i)),(0,.slice (some ⟨g,0,none⟩) (n+1) c),(1,.int .i64 ((i:Nat):Int)),(2,.slice (some ad) 1 vc)]) ⟨⟨_,rfl,e4⟩,⟨_,rfl,e7⟩,⟨_,rfl,rfl⟩,⟨_,rfl,rfl⟩,⟨_,rfl,rfl⟩,trivial⟩ ?_
 have hg1:w1.heap[g]? = some (.cells (List.toArray cur) 77 (0,0)):=by rw [k1.block g (aY hrow) (by simp)]; exact hrow
 refine WO.v (R.jS rfl rfl Tryz.underlying23 cd hg1 hn2 (hd.kp k1 (aY hrow) (by simp)) (by omega) h1d) rfl ?_
 refine WO.nil ?_
 refine WX.next ?_
 have hg2:(w1.setRow g (cur.take ((i+1)*2)++ds++cur.drop ((i+1)*2+ds.length)).toArray).heap[g]? = some (.cells (List.toArray (cur.take ((i+1)*2)++ds++cur.drop ((i+1)*2+ds.length))) 77 (0,0)):=setRow_heap w1 g _ _ 77 _ hg1
 have hv2:CellsAt (w1.setRow g (cur.take ((i+1)*2)++ds++cur.drop ((i+1)*2+ds.length)).toArray) ad vs:=(hv.kp k1 (aY hvb) (by simp)).kp (Kp.setRow w1 g _) (Nat.lt_of_lt_of_le (aY hvb) k1.size) (by simpa using fun h=>hne h.symm)
 refine WC.seq ?_
 refine WC.region ?_
 refine WO.v (R.move rfl) rfl ?_
 refine WO.v (R.move rfl) rfl ?_
 refine WO.v (R.bW rfl rfl Tryz.underlying23 cd (dg (by omega)) (by omega)) rfl ?_
 refine WO.v (R.move rfl) rfl ?_
 refine WO.v (R.jS rfl rfl Tryz.underlying23 cd hg2 hn1 hv2 (by simp only [List.length_append,List.length_take,List.length_drop]; omega) h1v) rfl ?_
 refine WO.nil ?_
 refine WX.next ?_
 refine WC.seq ?_
 refine WC.region ?_
 refine WO.v (R.move rfl) rfl ?_
 refine WO.v (R.assign rfl) rfl ?_
 refine WO.nil ?_
 refine WX.next ?_
 refine WC.ret ?_
 refine WX.gl ?_
 refine WX.rQ rfl rfl ?_
 exact ⟨rfl,w1,k1,rfl⟩
theorem sA {G:Gl} {ρ:List RE} {H:AH} {w:World} (hs:G.shp=av aI) (hR:Rep G ρ H w) {l m:List (den (.nm .opn))} (hH:getO H 0 = .row 77 (.nm .opn) l) (hl:l.length<1048576) {i:Nat} (hi:i<=l.length) {v0:Value} (h0:Rd (cx G ρ w) ρ (.own 0) v0)
  {ad:Addr} {k:Nat} {cys:List Value} {bAV:AV} (hm:m.length=1) (hb:Rd (cx G ρ w) ρ bAV (.slice (some ad) 1 k)) (hbv:(bAV.vw H).eH (.nm .opn)=some m) (hv:CellsAt w ad cys) (hvl:cys.length=2) (h1v:∀ u ∈ cys,u.oneCell' = true) (hp:Pds (cx G ρ w) (m.flatMap (cellsOf (.nm .opn))) cys)
  (hne:∀ g c n z,ρ[0]? = some (.row g c n z)->ad.block≠g) {curA:Array Value} {tA:TypeId} {fA:Nat × Nat} (hvb:w.heap[ad.block]? = some (.cells curA tA fA)) (hvb0:curA.size≠0) :
  gz Tryz.prog 92 [v0,.int .i64 (i:Int),.slice (some ad) 1 k].toArray w fun v w'=>∃ ρ',Stp (vQ 0) ρ w ρ' w' /\ Rep G ρ' ((ej (AV.kill 0) H).set 0 (.row 77 (.nm .opn) (l.take i++m++l.drop i))) w' /\ Rd (cx G ρ' w') ρ' (.own 0) v:=by
 have hT:bj Tryz.prog G.shp aI:=hs ▸ fX
 obtain ⟨hshp,hlen⟩:=cM hR hH
 have hl64:l.length<=9223372036854775807:=by omega
 have hin:((l.length:Nat):Int)<=9223372036854775807:=by omega
 by_cases hie:i=l.length
 ·subst hie
  have hc:∃ A c,v0 = .slice A l.length c:=by
   rcases h0 with ⟨g,cap,len,z,h1,rfl⟩ | ⟨h1,a,rfl⟩
   ·rcases bk hR hH with ⟨h2,_⟩ | ⟨g',cap',cells,sp,h2,_⟩
    ·rw [h1] at h2; cases h2
    ·rw [h1] at h2; cases h2; exact ⟨_,_,rfl⟩
   ·rcases bk hR hH with ⟨_,h2⟩ | ⟨g',cap',cells,sp,h2,_⟩
    ·subst h2; exact ⟨_,_,rfl⟩
    ·rw [h1] at h2; cases h2
  obtain ⟨A,c,rfl⟩:=hc
  refine rL fun F x y ty hx hy=>?_
  have happ:fq aI (vQ 0) ([]:AFr) H 23 (.own 0) bAV=some ⟨one (.own 0),[],(ej (AV.kill 0) H).set 0 (.row 77 (.nm .opn) (l++m)),[(l.length+m.length)*(Sh.nm NT.opn).bytes<=140737488355328],[]⟩:=by
   unfold fq
   rw [show bm aI 23=some ⟨.sl 77 (some (.nm .opn)),1,[.em true]⟩ from by kernel_rfl]
   simp only [hbv,hH]
   rfl
  obtain ⟨v,w',h1,ρ',h2,h3,_,h5,_⟩:=fh (P:=Tryz.prog) (n:=95) (F:=[]) (ty:=ty) (fr:=[]) (x:=.const (.slice A l.length c)) (y:=.const (.slice (some ad) 1 k)) hT hR .nil happ (by
   intro p hp
   rw [List.mem_singleton] at hp; subst hp
   show (l.length+m.length)*16<=_
   omega) h0 hb rfl rfl
  refine ⟨v,w',R.tN h1 hx hy,ρ',h2,?_,h5⟩
  rw [List.take_length,List.drop_length,List.append_nil]
  exact h3
 ·have hlt:i<l.length:=by omega
  rcases bk hR hH with ⟨_,h2⟩ | ⟨g,cap,cells,sp,hρ,hg,hpd,hsz,hcap,hmax⟩
  ·subst h2; simp at hlt
  obtain ⟨hnb,hil,hiH⟩:=jF hR hH
  have hv0:v0 = .slice (some ⟨g,0,none⟩) l.length cap:=by
   rcases h0 with ⟨g',cap',len,z,h1,rfl⟩ | ⟨h1,a,rfl⟩
   ·rw [hρ] at h1; cases h1; rfl
   ·rw [hρ] at h1; cases h1
  subst hv0
  have hz:(Sh.nm NT.opn).size=2:=rfl
  have hby:(Sh.nm NT.opn).bytes=16:=rfl
  have hcl:cells.length=l.length*2:=by rw [<- hpd.length,bC,hz]
  rw [hz,List.length_append] at hsz
  have hone:∀ u ∈ cells.drop (i*2),u.oneCell' = true:=fun u hu=>hpd.ye u (List.mem_of_mem_drop hu)
  have hd:CellsAt w ⟨g,i*2,none⟩ (cells.drop (i*2)):=by
   have:=(bR hg).shift (i*2)
   rwa [add_lit,Nat.zero_add] at this
  have hdl:(cells.drop (i*2)).length=(l.length - i)*2:=by rw [List.length_drop,hcl]; omega
  have hgl:=aY hg
  have hzl:(l.take i++m++l.drop i).length=l.length+1:=by
   rw [List.length_append,List.length_append,List.length_take,List.length_drop,hm]; omega
  have hnew:∀ {c:Cx},(cx G ρ w).le c->Pds c ((l.take i++m++l.drop i).flatMap (cellsOf (.nm .opn))) (cells.take (i*2)++cys++cells.drop (i*2)):=fun {c} hle=>by
   rw [List.flatMap_append,List.flatMap_append]
   exact (((bz hpd i).append hp).append (bG hpd i)).carry hle
  have hnl:(cells.take (i*2)++cys++cells.drop (i*2)).length=(l.length+1)*2:=by
   rw [List.length_append,List.length_append,List.length_take,List.length_drop,hcl,hvl]; omega
  have hbig:(l.take i++m++l.drop i).length*(Sh.nm NT.opn).bytes<=140737488355328:=by rw [hzl,hby]; omega
  -- what is shown of any way
  have fin:∀ (S:List Nat) (g2 cap2:Nat) (sp2:List Value) (w':World),Kp S w w' -> (∀ b ∈ S,b=g)->(g2=g\/w.heap.size<=g2)->w'.heap[g2]? = some (.cells (List.toArray (cells.take (i*2)++cys++cells.drop (i*2)++sp2)) 77 (0,0))->(l.length+1)*2+sp2.length=cap2*2->l.length+1<=cap2->cap2<=maxLen ->
    ∃ ρ',Stp (vQ 0) ρ w ρ' w' /\ Rep G ρ' ((ej (AV.kill 0) H).set 0 (.row 77 (.nm .opn) (l.take i++m++l.drop i))) w' /\ Rd (cx G ρ' w') ρ' (.own 0) (.slice (some ⟨g2,0,none⟩) (l.length+1) cap2):=by
   intro S g2 cap2 sp2 w' hk hS hg2 hh hlen2 hle2 hmax2
   obtain ⟨k1,k2,_⟩:=ij (ro:=vQ 0) (s':=.nm .opn) (e':=77) (zs:=l.take i++m++l.drop i) hR hH ⟨rfl,rfl⟩ hk (fun b hb=>⟨_,hρ,by rw [hS b hb]; rfl⟩) (r':=.row g2 cap2 (l.take i++m++l.drop i).length (Sh.nm NT.opn).size) (fun b hb=>by
    cases hb
    rcases hg2 with rfl | hg2
    ·exact .inl ⟨_,hρ,rfl⟩
    ·exact .inr ⟨hg2,aY hh⟩) (fun hle=>⟨hshp,hbig,.inr ⟨g2,cap2,_,sp2,rfl,hh,hnew hle,by rw [List.length_append,hnl,hz]; exact hlen2,by rw [hzl]; exact hle2,hmax2⟩⟩)
   exact ⟨_,k1,k2,.inl ⟨g2,cap2,_,_,List.getElem?_set_self hil,by rw [hzl]⟩⟩
  have eo:(i+1)*2=i*2+2:=by omega
  by_cases hroom:l.length+1<=cap
  ·refine (nW hlt hroom hmax hg (by rw [List.length_append]; omega) hv hvb hvb0 (hne _ _ _ _ hρ) hvl hd hdl h1v hone).mono fun v w' ⟨e1,w1,k1,e2⟩=>?_
   subst e1; subst e2
   rw [eo,Cc (by omega) hvl]
   have hk:Kp [g] w ((w1.setRow g ((cells++sp).take (i*2+2)++cells.drop (i*2)++(cells++sp).drop (i*2+2+(cells.drop (i*2)).length)).toArray).setRow g (cells.take (i*2)++cys++cells.drop (i*2)++sp.drop 2).toArray):=((k1.sub (by simp)).step (Kp.setRow w1 g _) (by simp)).step (Kp.setRow _ g _) (by simp)
   have hg1:w1.heap[g]? = some (.cells (List.toArray (cells++sp)) 77 (0,0)):=by rw [k1.block g hgl (by simp)]; exact hg
   exact fin [g] g cap (sp.drop 2) _ hk (by simp) (.inl rfl) (setRow_heap _ g _ _ 77 _ (setRow_heap w1 g _ _ 77 _ hg1)) (by rw [List.length_drop]; omega) hroom hmax
  ·obtain ⟨ti,hi0,hz0,hz1,hz2⟩:=info_parts tp
   have eik:i+(l.length+1 - i)=l.length+1:=by omega
   have hge:=grownCap_ge w (l.length+1) cap 77
   have hgm:=grownCap_le_maxLen w (l.length+1) cap 77 (by simp [maxLen]; omega)
   have hold:(Builtin.firstCells ti.size i (.slice (some ⟨g,0*2,none⟩) i cap)).run Tryz.prog w.drew = .ok (cells.take (i*2)).toArray w.drew:=by
    have h:=run_loadCells_list (P:=Tryz.prog) w.drew ⟨g,0*2,none⟩ (cells.take (i*2)) (by rw [Nat.zero_mul]; exact (bR hg).take _)
    rw [List.length_take,Nat.min_eq_left (by omega)] at h
    rw [hz1]; exact h
   have happ:∀ (F:Fr) (x y:Operand) (ty:TypeId),ev F x=some (.slice (some ⟨g,0*2,none⟩) i cap)->ev F y=some (.int .i64 ((l.length+1 - i:Nat):Int))->aK Tryz.prog 95 F w (.call { callee:=.builtin .append,args:=#[x,y],argTypes:=#[23,3] }) ty (.slice (some ⟨w.heap.size,0,none⟩) (l.length+1) (grownCap w (l.length+1) cap 77)) (w.drew.alloc (.cells (List.toArray (cells.take (i*2)++((Builtin.zeroCells (Value.agg #[.int .i64 0,.int .i64 0]).cells (l.length+1 - i)).toList++(Builtin.zeroCells (Value.agg #[.int .i64 0,.int .i64 0]).cells (grownCap w (l.length+1) cap 77 - (l.length+1))).toList))) 77)):=fun F x y ty hx hy=>by
    have h:=R.FI (P:=Tryz.prog) (n:=95) (ty:=ty) hx hy Tryz.underlying23 Tryz.underlying3 hi0 hz0 hold (by omega) (by rw [hz1]; decide) (by omega) (by omega) (by rw [hz2]; omega) (by rw [hz2,eik]; exact growslice_fits (by omega) (by omega))
    rw [eik] at h
    have e:∀ (a:List Value) (b c:Array Value),a.toArray++b++c=(a++(b.toList++c.toList)).toArray:=fun a b c=>by apply Array.ext'; simp
    rw [e] at h
    exact h
   have hcurl:(cells.take (i*2)++((Builtin.zeroCells (Value.agg #[.int .i64 0,.int .i64 0]).cells (l.length+1 - i)).toList++(Builtin.zeroCells (Value.agg #[.int .i64 0,.int .i64 0]).cells (grownCap w (l.length+1) cap 77 - (l.length+1))).toList)).length=grownCap w (l.length+1) cap 77*2:=by
    rw [List.length_append,List.length_append,List.length_take,l_,l_]
    show min _ _+((l.length+1 - i)*2+(grownCap w (l.length+1) cap 77 - (l.length+1))*2)=_
    omega
   have htk:(cells.take (i*2)++((Builtin.zeroCells (Value.agg #[.int .i64 0,.int .i64 0]).cells (l.length+1 - i)).toList++(Builtin.zeroCells (Value.agg #[.int .i64 0,.int .i64 0]).cells (grownCap w (l.length+1) cap 77 - (l.length+1))).toList)).take (i*2)=cells.take (i*2):=List.take_left' (by rw [List.length_take]; omega)
   generalize grownCap w (l.length+1) cap 77=GC at *
   generalize cells.take (i*2)++((Builtin.zeroCells (Value.agg #[.int .i64 0,.int .i64 0]).cells (l.length+1 - i)).toList++(Builtin.zeroCells (Value.agg #[.int .i64 0,.int .i64 0]).cells (GC - (l.length+1))).toList)=cur at *
   have hK1:Kp [] w (w.drew.alloc (.cells (List.toArray cur) 77)):=((Kp.refl w).drew).step (Kp.alloc w.drew _) (by simp)
   have hrow:(w.drew.alloc (.cells (List.toArray cur) 77)).heap[w.heap.size]? = some (.cells (List.toArray cur) 77 (0,0)):=heap_alloc_new w.drew _
   generalize w.drew.alloc (.cells (List.toArray cur) 77)=W1 at *
   refine (qF hlt hcap (by omega) hmax hge hgm happ hrow (by omega) (hv.kp hK1 (aY hvb) (by simp)) hvl (hd.kp hK1 hgl (by simp)) (by omega) (Nat.lt_of_lt_of_le hgl hK1.size) hdl h1v hone).mono fun v w' ⟨e1,w1,k1,e2⟩=>?_
   subst e1; subst e2
   rw [eo,Co (cells:=cells) (by omega) hvl htk]
   have hs1:∀ b ∈ [w.heap.size],b ∈ ([]:List Nat)\/w.heap.size<=b:=fun b hb=>.inr (by rw [List.mem_singleton] at hb; omega)
   have hk:Kp [] w (w1.setRow w.heap.size (cells.take (i*2)++cys++cells.drop (i*2)++cur.drop (i*2+2+(cells.drop (i*2)).length)).toArray):=((hK1.step (Kp.setRow W1 w.heap.size _) hs1).step k1 (by simp)).step (Kp.setRow w1 w.heap.size _) hs1
   have hg1:=(k1.block w.heap.size (by simpa using aY hrow) (by simp)).trans (setRow_heap W1 w.heap.size _ (cur.take (i*2)++cys++cur.drop (i*2+cys.length)).toArray 77 _ hrow)
   exact fin [] w.heap.size GC _ _ hk (by simp) (.inr (Nat.le_refl _)) (setRow_heap w1 w.heap.size _ _ 77 _ hg1) (by rw [List.length_drop]; omega) hge hgm
theorem oE (i:Int) (l m:List (den (.nm .opn))) (h:0<=i/\i<=(l.length:Int)) (hl:l.length<1048576) (hm:m.length=1):Sat Tryz.prog (av aI) 92 [.c (.own 0),.c (.int i),.c (.fz (.nm .opn) m)] [.row 77 (.nm .opn) l] ⟨[0<=i/\i<=(l.length:Int),l.length<1048576,m.length=1],[.c (.own 0)],some [.row 77 (.nm .opn) (l.take i.toNat++m++l.drop i.toNat)],false⟩:=by
 refine ⟨⟨_,Tryz.func92,by decide,rfl⟩,fun G ρ w vs hs hR hvs=>?_⟩
 obtain ⟨i,rfl⟩:=Int.eq_ofNat_of_zero_le h.1
 cases hvs with | cons h0 hvs=>
 cases hvs with | cons h1 hvs=>
 cases hvs with | cons h2 hvs=>
 cases hvs
 have h1:Pd (cx G ρ w) (.int (i:Int)) _:=h1
 cases h1
 have h0:Rd (cx G ρ w) ρ (.own 0) _:=h0
 have h2:Rd (cx G ρ w) ρ (.fz (.nm .opn) m) _:=h2
 have hH:getO [AO.row 77 (.nm .opn) l] 0 = .row 77 (.nm .opn) l:=rfl
 have hbv:(AV.vw [AO.row 77 (.nm .opn) l] (.fz (.nm .opn) m)).eH (.nm .opn)=some m:=by simp [AV.vw,AV.eH,getO]
 obtain ⟨A,k,cys,rfl,s1,s2,s3,s4⟩:=lr hR hbv h2
 rw [hm] at h2 s1 s3
 rw [hm]
 obtain ⟨ad,rfl,s5⟩:∃ ad,A=some ad/\CellsAt w ad cys:=s3.resolve_left (by decide)
 have hz:(Sh.nm NT.opn).size=2:=rfl
 rw [hz] at s1
 obtain ⟨u,hu⟩:∃ u,cys[0]? = some u:=⟨_,List.getElem?_eq_getElem (by omega)⟩
 obtain ⟨cur,t,f,hc,hc0⟩:=nd (s5 0 u hu)
 have hne:∀ g c n z,ρ[0]? = some (.row g c n z)->ad.block≠g:=fun g c n z hg e=>by
  have h2:Pd (cx G ρ w) (.fz (.nm .opn) m) (.slice (some ad) 1 k):=h2
  have h3:=DU h2 (by rw [hm]; decide)
  exact h3.1.2.1 ⟨0,_,hg,by rw [e]; rfl⟩
 rw [eI] at hc
 refine (sA hs hR hH hl (by omega) h0 hm h2 hbv s5 s1 s2 s4 hne hc hc0).mono fun v w' ⟨ρ',k1,k2,k3⟩=>?_
 exact ⟨[v],rfl,ρ',k2,k1.ext,k1.bx,.cons k3 .nil,fun hb=>by cases hb⟩
theorem zw:(Builtin.zeroCells (Value.agg #[.int .i64 0,.int .i64 0]).cells 1).toList=[.int .i64 0,.int .i64 0]:=by kernel_rfl
set_option maxRecDepth 100000 in
set_option maxHeartbeats 1000000 in
theorem yr {w:World} {g n i c:Nat} {cur ds:List Value} {ti:TypeInfo} (hi:i<n) (hnc:n<=c) (hcm:c<=maxLen) (hg:w.heap[g]? = some (.cells cur.toArray 77 (0,0))) (hcur:n*2<=cur.length) (hdl:ds.length=(n - (i+1))*2) (hd:CellsAt w (if c=i+1 then ⟨g,0,none⟩ else (⟨g,0,none⟩:Addr).add ((i+1)*2)) ds) (h1d:∀ u ∈ ds,u.oneCell' = true)
  (hi0:Tryz.prog.info? 77=some ti) (hz0:ti.zero=some (.agg #[.int .i64 0,.int .i64 0])) (hz1:ti.size=2) :
  gz Tryz.prog 95 [.slice (some ⟨g,0,none⟩) n c,.int .i64 (i:Int),.int .i64 ((i+1:Nat):Int)].toArray w fun v w'=>v = .slice (some ⟨g,0,none⟩) (i+(n - (i+1))) c/\∃ w1,Kp [] w w1/\w' = (w1.setRow g (cur.take (i*ti.size)++ds++cur.drop (i*ti.size+ds.length)).toArray).setRow g ((cur.take (i*ti.size)++ds++cur.drop (i*ti.size+ds.length)).take ((i+(n - (i+1)))*2)++(Builtin.zeroCells (Value.agg #[.int .i64 0,.int .i64 0]).cells 1).toList++(cur.take (i*ti.size)++ds++cur.drop (i*ti.size+ds.length)).drop ((i+(n - (i+1)))*2+(Builtin.zeroCells (Value.agg #[.int .i64 0,.int .i64 0]).cells 1).toList.length)).toArray:=by
 have hcm:c<=9223372036854775807:=hcm
 refine gz.enter Tryz.func95 rfl rfl rfl rfl ?_
 refine WC.seq ?_
 refine WC.region ?_
 refine WO.v (R.assign rfl) rfl ?_
 refine WO.nil ?_
 refine WX.next ?_
 refine WC.seq ?_
 refine WC.region ?_
 refine WO.v (R.move rfl) rfl ?_
 refine WO.v (R.move rfl) rfl ?_
 refine WO.v (R.move rfl) rfl ?_
 refine WO.v (R.move rfl) rfl ?_
 refine WO.v (R.len rfl Tryz.underlying23) rfl ?_
 refine WO.v (R.slice3 rfl rfl rfl rfl Tryz.underlying23 cd (by omega) (by omega) (by omega)) rfl ?_
 refine WO.nil ?_
 refine WX.next ?_
 refine WC.seq ?_
 refine WC.seq ?_
 refine WC.region ?_
 refine WO.v (R.move rfl) rfl ?_
 refine WO.v (R.move rfl) rfl ?_
 refine WO.v (R.eql rfl rfl) rfl ?_
 refine WO.nil ?_
 refine WX.next ?_
 refine WC.cond rfl (fun q=>absurd (of_decide_eq_true q) (by omega)) (fun _=>?_)
 refine WC.skip ?_
 refine WX.next ?_
 refine WC.seq ?_
 refine WC.region ?_
 refine WO.v (R.move rfl) rfl ?_
 refine WO.v (R.len rfl Tryz.underlying23) rfl ?_
 refine WO.v (R.assign rfl) rfl ?_
 refine WO.nil ?_
 refine WX.next ?_
 refine WC.seq ?_
 refine WC.nt fB [.ex [] (.slice (some ⟨g,0,none⟩) n c),.ex [] (.int .i64 ((i:Nat):Int)),.ex [0,1] (.slice (some ⟨g,0*2,none⟩) (i - 0) (c - 0)),.ex [] (.slice (some ⟨g,0,none⟩) n c),.ex [] (.int .i64 ((i+1:Nat):Int)),.ex [3,4] (.slice (some (if c=i+1 then ⟨g,0,none⟩ else (⟨g,0,none⟩:Addr).add ((i+1)*2))) (n - (i+1)) (c - (i+1)))] 6 (by kernel_rfl) ⟨fun _ _ _ h _=>h,fun _ _ _ h _=>h,fun _ _ _ h _=>h,fun _ _ _ h _=>h,fun _ _ _ h _=>h,fun _ _ _ h _=>h,trivial⟩ ⟨?_,?_,?_,?_,?_,?_,trivial⟩ ?_
 ·rintro vs wd kd ⟨-⟩
  refine WO.bl (fr':=[(0,.slice (some ⟨g,0,none⟩) n c)]) ⟨⟨_,rfl,rfl⟩,trivial⟩ ?_
  refine WO.v (R.move rfl) rfl ?_
  refine WO.nil ?_
  exact WX.aH rfl rfl (Kp.refl _)
 ·rintro vs wd kd ⟨-⟩
  refine WO.bl (fr':=[(1,.int .i64 ((i:Nat):Int))]) ⟨⟨_,rfl,rfl⟩,trivial⟩ ?_
  refine WO.v (R.move rfl) rfl ?_
  refine WO.nil ?_
  exact WX.aH rfl rfl (Kp.refl _)
 ·rintro vs wd kd ⟨e0,e1,-⟩
  refine WO.bl (fr':=[(20,.slice (some ⟨g,0,none⟩) n c),(21,.int .i64 ((i:Nat):Int))]) ⟨⟨_,rfl,e0⟩,⟨_,rfl,e1⟩,trivial⟩ ?_
  refine WO.v (R.ja rfl rfl Tryz.underlying23 cd (dg (i:=0) (by omega)) (by omega)) rfl ?_
  refine WO.nil ?_
  exact WX.aH rfl rfl (Kp.refl _)
 ·rintro vs wd kd ⟨-⟩
  refine WO.bl (fr':=[(0,.slice (some ⟨g,0,none⟩) n c)]) ⟨⟨_,rfl,rfl⟩,trivial⟩ ?_
  refine WO.v (R.move rfl) rfl ?_
  refine WO.nil ?_
  exact WX.aH rfl rfl (Kp.refl _)
 ·rintro vs wd kd ⟨-⟩
  refine WO.bl (fr':=[(2,.int .i64 ((i+1:Nat):Int))]) ⟨⟨_,rfl,rfl⟩,trivial⟩ ?_
  refine WO.v (R.move rfl) rfl ?_
  refine WO.nil ?_
  exact WX.aH rfl rfl (Kp.refl _)
 ·rintro vs wd kd ⟨e3,e4,-⟩
  refine WO.bl (fr':=[(23,.slice (some ⟨g,0,none⟩) n c),(24,.int .i64 ((i+1:Nat):Int))]) ⟨⟨_,rfl,e3⟩,⟨_,rfl,e4⟩,trivial⟩ ?_
  refine WO.v (R.bW rfl rfl Tryz.underlying23 cd D_ (by omega)) rfl ?_
  refine WO.nil ?_
  exact WX.aH rfl rfl (Kp.refl _)
 rintro vsx w1 k1 ⟨-,-,e2,-,-,e5,-⟩
 replace k1:Kp [] w w1:=k1
 refine WO.bl (fr':=[(22,.slice (some ⟨g,0*2,none⟩) (i - 0) (c - 0)),(25,.slice (some (if c=i+1 then ⟨g,0,none⟩ else (⟨g,0,none⟩:Addr).add ((i+1)*2))) (n - (i+1)) (c - (i+1))),(7,.int .i64 ((n:Nat):Int))]) ⟨⟨_,rfl,e2⟩,⟨_,rfl,e5⟩,⟨_,rfl,rfl⟩,trivial⟩ ?_
 have hg1:w1.heap[g]? = some (.cells (List.toArray cur) 77 (0,0)):=by rw [k1.block g (aY hg) (by simp)]; exact hg
 have hd1:CellsAt w1 (if c=i+1 then ⟨g,0,none⟩ else (⟨g,0,none⟩:Addr).add ((i+1)*2)) ds:=hd.keep (k1.block _ (by split <;> exact aY hg) (by simp))
 refine WO.v (R.AL (sl:=i) (sc:=c) rfl rfl Tryz.underlying23 hi0 hg1 (by rw [hz1]; exact hdl) hd1 h1d (by omega) (by rw [hz1]; omega)) rfl ?_
 refine WO.v (R.assign rfl) rfl ?_
 refine WO.nil ?_
 refine WX.next ?_
 have hg2:=setRow_heap w1 g _ (cur.take (i*ti.size)++ds++cur.drop (i*ti.size+ds.length)).toArray 77 _ hg1
 refine WC.seq ?_
 refine WC.region ?_
 refine WO.v (R.move rfl) rfl ?_
 refine WO.v (R.move rfl) rfl ?_
 refine WO.v (R.len rfl Tryz.underlying23) rfl ?_
 refine WO.v (R.move rfl) rfl ?_
 refine WO.v (R.uh rfl rfl rfl Tryz.underlying23 cd (dg (by omega)) (by omega) (by omega)) rfl ?_
 refine WO.v0 (R.HR rfl (by omega) Tryz.underlying23 hi0 hz0 (by rw [zw]; simp [Value.oneCell']) hg2 (by rw [l_,hz1]; simp only [List.length_append,List.length_take,List.length_drop]; show _+1*2<=_; omega)) ?_
 refine WO.nil ?_
 refine WX.next ?_
 refine WC.seq ?_
 refine WC.region ?_
 refine WO.v (R.move rfl) rfl ?_
 refine WO.v (R.assign rfl) rfl ?_
 refine WO.nil ?_
 refine WX.next ?_
 refine WC.ret ?_
 refine WX.rQ rfl rfl ?_
 exact ⟨rfl,w1,k1,rfl⟩
theorem qo (i j:Int) (l:List (den (.nm .opn))) (h:0<=i/\i<(l.length:Int)/\j=i+1):Sat Tryz.prog (av aI) 95 [.c (.own 0),.c (.int i),.c (.int j)] [.row 77 (.nm .opn) l] ⟨[0<=i/\i<(l.length:Int)/\j=i+1],[.c (.own 0)],some [.row 77 (.nm .opn) (l.take i.toNat++l.drop j.toNat)],false⟩:=by
 refine ⟨⟨_,Tryz.func95,by decide,rfl⟩,fun G ρ w vs hs hR hvs=>?_⟩
 obtain ⟨hi0,hi1,rfl⟩:=h
 obtain ⟨i,rfl⟩:=Int.eq_ofNat_of_zero_le hi0
 have hlt:i<l.length:=by omega
 cases hvs with | cons h0 hvs=>
 cases hvs with | cons h1 hvs=>
 cases hvs with | cons h2 hvs=>
 cases hvs
 have h1:Pd (cx G ρ w) (.int (i:Int)) _:=h1
 have h2:Pd (cx G ρ w) (.int ((i:Int)+1)) _:=h2
 cases h1
 cases h2
 have h0:Rd (cx G ρ w) ρ (.own 0) _:=h0
 have hH:getO [AO.row 77 (.nm .opn) l] 0 = .row 77 (.nm .opn) l:=rfl
 obtain ⟨hshp,hlen⟩:=cM hR hH
 rcases bk hR hH with ⟨_,h2⟩ | ⟨g,cap,cells,sp,hρ,hg,hpd,hsz,hcap,hmax⟩
 ·subst h2; simp at hlt
 obtain ⟨hnb,hil,hiH⟩:=jF hR hH
 have hz:(Sh.nm NT.opn).size=2:=rfl
 have hby:(Sh.nm NT.opn).bytes=16:=rfl
 have hcl:cells.length=l.length*2:=by rw [<- hpd.length,bC,hz]
 rw [hz,List.length_append] at hsz
 rw [hby] at hlen
 obtain ⟨ti,hi0,hz0,hz1,hz2⟩:=info_parts tp
 have hone:∀ u ∈ cells.drop ((i+1)*2),u.oneCell' = true:=fun u hu=>hpd.ye u (List.mem_of_mem_drop hu)
 have hd:CellsAt w (if cap=i+1 then ⟨g,0,none⟩ else (⟨g,0,none⟩:Addr).add ((i+1)*2)) (cells.drop ((i+1)*2)):=by
  split
  ·rw [List.drop_of_length_le (by omega)]; exact CellsAt.nil
  ·exact (bR hg).shift _
 have hv0:∀ v,Rd (cx G ρ w) ρ (.own 0) v->v = .slice (some ⟨g,0,none⟩) l.length cap:=fun v h0=>by
  rcases h0 with ⟨g',cap',len,z,h1,rfl⟩ | ⟨h1,a,rfl⟩
  ·rw [hρ] at h1; cases h1; rfl
  ·rw [hρ] at h1; cases h1
 obtain rfl:=hv0 _ h0
 have e0:((i:Int)+1)=((i+1:Nat):Int):=by omega
 rw [e0]
 refine (yr hlt hcap hmax hg (by rw [List.length_append]; omega) (by rw [List.length_drop,hcl]; omega) hd hone hi0 hz0 hz1).mono fun v w' ⟨e1,w1,k1,e2⟩=>?_
 subst e1
 have hq:i+(l.length - (i+1))=l.length - 1:=by omega
 rw [hq,hz1,zw] at e2
 rw [hq]
 have hzl:(l.take i++l.drop (i+1)).length=l.length - 1:=by rw [List.length_append,List.length_take,List.length_drop]; omega
 have hnl:(cells.take (i*2)++cells.drop ((i+1)*2)).length=(l.length - 1)*2:=by rw [List.length_append,List.length_take,List.length_drop]; omega
 have htk:((cells++sp).take (i*2)++cells.drop ((i+1)*2)++(cells++sp).drop (i*2+(cells.drop ((i+1)*2)).length)).take ((l.length - 1)*2)=cells.take (i*2)++cells.drop ((i+1)*2):=by
  rw [List.take_append_of_le_length (l₁:=cells) (by omega)]
  exact List.take_left' hnl
 have hr1l:((cells++sp).take (i*2)++cells.drop ((i+1)*2)++(cells++sp).drop (i*2+(cells.drop ((i+1)*2)).length)).length=cap*2:=by
  simp only [List.length_append,List.length_drop,List.length_take]
  omega
 generalize (cells++sp).take (i*2)++cells.drop ((i+1)*2)++(cells++sp).drop (i*2+(cells.drop ((i+1)*2)).length)=r1 at e2 htk hr1l
 rw [htk,List.append_assoc] at e2
 generalize hsp2:([.int .i64 0,.int .i64 0]:List Value)++List.drop ((l.length - 1)*2+([.int .i64 0,.int .i64 0]:List Value).length) r1=sp2 at e2
 have hlen2:(l.length - 1)*2+sp2.length=cap*2:=by
  rw [<- hsp2]
  simp only [List.length_append,List.length_cons,List.length_nil,List.length_drop]
  omega
 have hg1:w1.heap[g]? = some (.cells (List.toArray (cells++sp)) 77 (0,0)):=by rw [k1.block g (aY hg) (by simp)]; exact hg
 have hh:=setRow_heap _ g _ (cells.take (i*2)++cells.drop ((i+1)*2)++sp2).toArray 77 _ (setRow_heap w1 g _ r1.toArray 77 _ hg1)
 have hk:=((k1.sub (T:=[g]) (by simp)).step (Kp.setRow w1 g r1.toArray) (by simp)).step (Kp.setRow _ g (cells.take (i*2)++cells.drop ((i+1)*2)++sp2).toArray) (by simp)
 subst e2
 obtain ⟨k2,k3,_⟩:=ij (ro:=vQ 0) (s':=.nm .opn) (e':=77) (zs:=l.take i++l.drop (i+1)) hR hH ⟨rfl,rfl⟩ hk (fun b hb=>⟨_,hρ,by rw [List.mem_singleton] at hb; subst hb; rfl⟩) (r':=.row g cap (l.take i++l.drop (i+1)).length (Sh.nm NT.opn).size) (fun b hb=>by
  cases hb; exact .inl ⟨_,hρ,rfl⟩) (fun hle=>⟨hshp,by rw [hzl,hby]; omega,.inr ⟨g,cap,_,sp2,rfl,hh,by
   rw [List.flatMap_append]; exact ((bz hpd i).append (bG hpd (i+1))).carry hle,by rw [List.length_append,hnl,hz]; exact hlen2,by omega,hmax⟩⟩)
 exact ⟨[_],rfl,_,k3,k2.ext,k2.bx,.cons (.inl ⟨g,cap,_,_,List.getElem?_set_self hil,by rw [hzl]⟩) .nil,fun hb=>by cases hb⟩
end Go.Proofs.YtdggohppeeaipaaGreat
namespace Go.Proofs.YtdggohppeeaipaaGreat
open Go.RowKit
def kV {β:Type} (z:β) (k:Int):List (Int × β)->β
 | []=>z
 | p :: r=>if k=p.1 then p.2 else kV z k r
end Go.Proofs.YtdggohppeeaipaaGreat
namespace Go.Proofs.YtdggohppeeaipaaGreat
open Go.RowKit
theorem aD {α:Type} {l:List α} {k:Nat} {x:α} (hx:l[k]? = some x):l.take (k+1)=l.take k++[x]:=by
 rw [List.take_add_one,hx]; rfl
end Go.Proofs.YtdggohppeeaipaaGreat
namespace Go.Proofs.YtdggohppeeaipaaGreat
open Go.RowKit
end Go.Proofs.YtdggohppeeaipaaGreat
namespace Go.Proofs.YtdggohppeeaipaaGreat
open Go.RowKit
theorem si {α:Type} [DecidableEq α] {l m:List α} (h:¬ ((l.length:Nat):Int)=((m.length:Nat):Int)):false=decide (l=m):=by
 symm; apply decide_eq_false; rintro rfl; exact h rfl
theorem lN {α:Type} [DecidableEq α] {l m:List α} {k:Nat} (hl:l.length=m.length) (h:l.take k=m.take k) (hk:l.length<=k):true=decide (l=m):=by
 symm; apply decide_eq_true
 rwa [List.take_of_length_le hk,List.take_of_length_le (by omega)] at h
def aW (n a b:Int):Bool:=decide (a<=n) && decide (n<=b)
def aw {α:Type} (key:α->Int) (most:Int):Int->List α->Bool
 | _,[]=>true
 | a,x :: r=>aW (key x) (a+1) most && aw key most (key x) r
def aV {α:Type} (key:α->Int) (a:Int) (l:List α):Int:=l.foldl (fun _ x=>key x) a
theorem dL {α:Type} {key:α->Int} {most:Int} {x:α}:∀ (p:List α) (a:Int),aw key most a (p++[x])=(aw key most a p && aW (key x) (aV key a p+1) most)
 | [],a=>by simp [aw,aV]
 | y :: p,a=>by
  rw [List.cons_append,aw,aw,dL p,Bool.and_assoc]; rfl
theorem gB {α:Type} {key:α->Int} {most:Int} (q:List α):∀ (p:List α) (a:Int),aw key most a (p++q)=true->aw key most a p=true
 | [],a,_=>rfl
 | y :: p,a,h=>by
  rw [List.cons_append,aw,Bool.and_eq_true] at h
  rw [aw,Bool.and_eq_true]
  exact ⟨h.1,gB q p _ h.2⟩
theorem bF {α:Type} {key:α->Int} {a:Int} {l:List α} {k:Nat} {x:α} (hx:l[k]? = some x):key x=aV key a (l.take (k+1)):=by
 rw [aD hx,aV,List.foldl_append]; rfl
theorem eV {α:Type} {key:α->Int} {a:Int} {l:List α} {k:Nat} {x:α} (h:0<k) (hx:l[k - 1]? = some x):aV key a (l.take k)=key x:=by
 obtain ⟨j,rfl⟩:∃ j,k=j+1:=⟨k - 1,by omega⟩
 exact (bF (by simpa using hx)).symm
theorem fN {α:Type} {key:α->Int} {most a:Int} {l:List α} {k:Nat} {x:α} (h:aw key most a (l.take k)=true) (hx:l[k]? = some x) (h1:aV key a (l.take k)<key x) (h2:key x<=most):aw key most a (l.take (k+1))=true:=by
 rw [aD hx,dL,h,Bool.true_and,aW,Bool.and_eq_true,decide_eq_true_eq,decide_eq_true_eq]
 exact ⟨by omega,h2⟩
theorem jV {α:Type} {key:α->Int} {most a:Int} {l:List α} {k:Nat} {x:α} (hx:l[k]? = some x) (h:¬ (aV key a (l.take k)<key x/\key x<=most)):aw key most a l=false:=by
 cases hr:aw key most a l with
 | false=>rfl
 | true=>
  have h1:=gB (l.drop (k+1)) (l.take (k+1)) a (by rw [List.take_append_drop]; exact hr)
  rw [aD hx,dL,Bool.and_eq_true,aW,Bool.and_eq_true,decide_eq_true_eq,decide_eq_true_eq] at h1
  exact absurd ⟨by omega,h1.2.2⟩ h
theorem fW {α:Type} {key:α->Int} {most a:Int} {l:List α} {k:Nat} (h:aw key most a (l.take k)=true) (hk:l.length<=k):aw key most a l=true:=by
 rwa [List.take_of_length_le hk] at h
def ck (l:List Int):Bool:=(decide ((1:Int)<=((l.length:Nat):Int)) && decide (((l.length:Nat):Int)<=8)) && aw id 64 0 l
theorem gg {l:List Int} {k:Nat} {x:Int} (hx:l[k]? = some x) (h:¬ (aV id 0 (l.take k)<x/\x<=64)):false=ck l:=by
 rw [ck,jV (key:=id) hx h,Bool.and_false]
theorem jB {l:List Int} {k:Nat} (h:aw id 64 0 (l.take k)=true) (hk:l.length<=k):(decide ((1:Int)<=((l.length:Nat):Int)) && decide (((l.length:Nat):Int)<=8))=ck l:=by
 rw [ck,fW h hk,Bool.and_true]
theorem vE {l:List Int} {k:Nat} (h:aw id 64 0 (l.take k)=true):0<=aV id 0 (l.take k):=by
 by_cases hk:k=0
 ·subst hk; exact Int.le_refl _
 ·by_cases hl:k - 1<l.length
  ·have hx:=List.getElem?_eq_getElem hl
   rw [eV (by omega) hx]
   have e:l.take k=l.take (k - 1)++[l[k - 1]]:=by
    have:=aD hx
    rwa [show k - 1+1=k by omega] at this
   rw [e,dL,Bool.and_eq_true,aW,Bool.and_eq_true,decide_eq_true_eq] at h
   have h0:∀ (p:List Int) (a:Int),0<=a->aw id 64 a p=true->0<=aV id a p:=by
    intro p
    induction p with
    | nil=>intro a ha _; exact ha
    | cons y p ih=>
     intro a ha hp
     rw [aw,Bool.and_eq_true,aW,Bool.and_eq_true,decide_eq_true_eq] at hp
     exact ih (id y) (by omega) hp.2
   have:=h0 _ _ (Int.le_refl 0) h.1
   omega
  ·have h0:∀ (p:List Int) (a:Int),0<=a->aw id 64 a p=true->0<=aV id a p:=by
    intro p
    induction p with
    | nil=>intro a ha _; exact ha
    | cons y p ih=>
     intro a ha hp
     rw [aw,Bool.and_eq_true,aW,Bool.and_eq_true,decide_eq_true_eq] at hp
     exact ih (id y) (by omega) hp.2
   exact h0 _ _ (Int.le_refl 0) h
theorem gO {l:List Int} {k:Nat} (h:aw id 64 0 (l.take k)=true) (hk:l.length<=k) (hl:1<=l.length/\l.length<=8):true=ck l:=by
 rw [ck,fW h hk,Bool.and_true]; symm; rw [Bool.and_eq_true,decide_eq_true_eq,decide_eq_true_eq]; omega
theorem lR {l:List Int} (hl:¬ (1<=l.length/\l.length<=8)):false=ck l:=by
 symm
 rw [ck,Bool.and_eq_false_iff]; left
 rw [Bool.and_eq_false_iff,decide_eq_false_iff_not,decide_eq_false_iff_not]; omega
end Go.Proofs.YtdggohppeeaipaaGreat
namespace Go.Proofs.YtdggohppeeaipaaGreat
open Go.RowKit
def aM (x:Sess):Bool:=(aW x.seq 0 1048576 && aW x.last.code 0 99) && aW x.last.n 0 1048576
def aN (x:Opn):Bool:=aW x.client 1 8
theorem dp {α:Type} {p:α->Bool} {l:List α} {k:Nat} {x:α} (h:(l.take k).all p=true) (hx:l[k]? = some x) (hp:p x=true):(l.take (k+1)).all p=true:=by
 rw [aD hx,List.all_append,h]; simp [hp]
theorem yh {α:Type} {p:α->Bool} {l:List α} {k:Nat} {x:α} (hx:l[k]? = some x) (hp:p x=false):l.all p=false:=by
 rw [List.all_eq_false]; exact ⟨x,List.mem_of_getElem? hx,by simp [hp]⟩
theorem xv {α:Type} {p:α->Bool} {l:List α} {k:Nat} (h:(l.take k).all p=true) (hk:l.length<=k):l.all p=true:=by
 rwa [List.take_of_length_le hk] at h
end Go.Proofs.YtdggohppeeaipaaGreat
namespace Go.Proofs.YtdggohppeeaipaaGreat
open Go.RowKit
def aX (n:Nat):Nat:=if h:n<128 then 1 else aX (n / 128)+1
termination_by n
decreasing_by omega
theorem lT {n:Nat} (h:¬ n<128):aX n=aX (n / 128)+1:=by rw [aX,dif_neg h]
theorem gE {n:Nat} (h:n<128):aX n=1:=by rw [aX,dif_pos h]
theorem gr (n:Nat):1<=aX n:=by rw [aX]; split <;> omega
theorem qp:∀ (k n:Nat),n<128 ^ (k+1)->aX n<=k+1
 | 0,n,h=>by rw [gE (by simpa using h)]; omega
 | k+1,n,h=>by
  by_cases hn:n<128
  ·rw [gE hn]; omega
  ·rw [lT hn]
   have:=qp k (n / 128) (by rw [Nat.div_lt_iff_lt_mul (by omega),<- Nat.pow_succ]; exact h)
   omega
theorem lg {n:Nat} (h:n<18446744073709551616):aX n<=10:=qp 9 n (Nat.lt_of_lt_of_le h (by decide))
def Ap (n i:Nat):UInt8:=UInt8.ofNat (n / 128 ^ i) ||| 128
def di (n k:Nat):List UInt8:=(List.range k).map (Ap n)++List.replicate (aX n - k) 0
def kX (n:Nat):List UInt8:=(di n (aX n)).set (aX n - 1) (Ap n (aX n - 1) &&& 127)
theorem eL {n k:Nat} (h:k<=aX n):(di n k).length=aX n:=by simp [di]; omega
theorem rK {n k:Nat} (h:k<aX n):(di n k).set k (Ap n k)=di n (k+1):=by
 unfold di
 rw [List.set_append_right _ _ (by simp),List.range_succ,List.map_append,List.append_assoc]
 congr 1
 obtain ⟨j,hj⟩:∃ j,aX n - k=j+1:=⟨aX n - k - 1,by omega⟩
 rw [hj,show aX n - (k+1)=j by omega]
 simp [List.replicate_succ]
theorem gN (n:Nat):List.replicate (aX n) (0:UInt8)=di n 0:=by simp [di]
theorem sV {n:Nat} {x:UInt8} (h:(di n (aX n))[aX n - 1]? = some x):x=Ap n (aX n - 1):=by
 have hp:=gr n
 unfold di at h
 rw [List.getElem?_append_left (by simp; omega)] at h
 simp only [List.getElem?_map,List.getElem?_range (show aX n - 1<aX n by omega),Option.map_some,Option.some.injEq] at h
 exact h.symm
theorem div_pow {n k:Nat}:n / 128 ^ k / 2 ^ 7=n / 128 ^ (k+1):=by show n / 128 ^ k / 128=_; rw [Nat.div_div_eq_div_mul,Nat.pow_succ]
theorem wX (n:Nat):(kX n).length=aX n:=by rw [kX,List.length_set,eL (Nat.le_refl _)]
theorem mi {n:Nat} (h:n<18446744073709551616):(kX n).length<=10:=by rw [wX]; exact lg h
def ec (l:List Int):List UInt8:=l.flatMap fun x=>kX x.toNat
theorem iY {l:List Int} {k:Nat} {x:Int} (hx:l[k]? = some x):ec (l.take k)++kX x.toNat=ec (l.take (k+1)):=by
 rw [aD hx]; simp [ec]
theorem xD {l:List Int} (h:∀ x ∈ l,x<=64):(ec l).length<=10*l.length:=by
 induction l with
 | nil=>simp [ec]
 | cons a l ih=>
  have h1:=ih fun x hx=>h x (List.mem_cons_of_mem _ hx)
  have h2:=mi (n:=a.toNat) (by have:=h a (by simp); omega)
  simp only [ec,List.flatMap_cons,List.length_append,List.length_cons] at *
  omega
theorem rW {l:List Int} (h:ck l=true):∀ x ∈ l,0<x/\x<=64:=by
 rw [ck,Bool.and_eq_true] at h
 have:∀ (l:List Int) (a:Int),0<=a->aw id 64 a l=true->∀ x ∈ l,0<x/\x<=64:=by
  intro l
  induction l with
  | nil=>intro a _ _ x hx; cases hx
  | cons y l ih=>
   intro a ha hl x hx
   rw [aw,Bool.and_eq_true,aW,Bool.and_eq_true,decide_eq_true_eq,decide_eq_true_eq] at hl
   have h1:a+1<=y:=hl.1.1
   have h2:y<=64:=hl.1.2
   rcases List.mem_cons.1 hx with rfl | hx
   ·omega
   ·exact ih (id y) (by show 0<=y; omega) hl.2 x hx
 exact this l 0 (by omega) h.2
theorem ur {l:List Int} (h:ck l=true):1<=l.length/\l.length<=8:=by
 rw [ck,Bool.and_eq_true,Bool.and_eq_true,decide_eq_true_eq,decide_eq_true_eq] at h
 omega
def eZ (l:List Int):List UInt8:=if ck l then ec l else []
def dk (l:List Int):Int:=if ck l then 0 else 1
theorem kW {l:List Int} {k:Nat} (hr:ck l=true) (hk:l.length<=k):ec (l.take k)=eZ l:=by rw [List.take_of_length_le hk,eZ,if_pos hr]
theorem js {l:List Int} (hr:ck l=false):[]=eZ l:=by rw [eZ,hr]; rfl
theorem fZ {l:List Int} (hr:ck l=true):0=dk l:=by rw [dk,hr]; rfl
theorem eY {l:List Int} (hr:ck l=false):1=dk l:=by rw [dk,hr]; rfl
end Go.Proofs.YtdggohppeeaipaaGreat
namespace Go.Proofs.YtdggohppeeaipaaGreat
open Go.RowKit
def bE (v t:Int) (x:Snap):Bool:=((decide (dk x.chunks=0) && aW x.set 1 8) && (!x.held || decide (2<=v))) && decide (((x.tag.b.length:Nat):Int)<=t)
def fK (v:Int):Int:=if v<3 then 0 else 16
def dm (s:State) (v:Int):Bool:=!(decide (16<((s.snaps.length:Nat):Int)) || !(aw Snap.id (s.next - 1) 0 s.snaps)) && s.snaps.all (bE v (fK v))
def cT (s:State) (v:Int):Bool:=((aW s.version 1 3 && aW s.next 1 1048576) && aW s.keep 0 8) && aW s.quota 0 (if v<3 then 0 else 64)
def iA (s:State):Bool:=aw Sess.client 8 0 s.sess && s.sess.all aM
def g_ (s:State):Bool:=aw Opn.set 8 0 s.opens && s.opens.all aN
def mayF (s:State) (v:Int):Int:=if !(aW v 1 3) then 1 else if (((!cT s v || !iA s) || !g_ s) || !dm s v) then 6 else 0
end Go.Proofs.YtdggohppeeaipaaGreat
namespace Go.Proofs.YtdggohppeeaipaaGreat
open Go.RowKit
theorem Hg {s:State} {v:Int} (h:(!(aW v 1 3))=true):1=mayF s v:=by rw [mayF,if_pos h]
end Go.Proofs.YtdggohppeeaipaaGreat
namespace Go.Proofs.YtdggohppeeaipaaGreat
open Go.RowKit
def dG (next v:Int) (x:Snap):Bool:=((((ck x.chunks && aW x.id 1 (IntKind.i64.wrap (next - 1))) && aW x.set 1 8) && (!x.held || decide (2<=v))) && decide (((x.tag.b.length:Nat):Int)<=16)) && (decide (x.tag=⟨[]⟩) || decide (3<=v))
def aR {α:Type} (p:α->Bool) (key:α->Int) (most:Int) (l:List α):Bool:=aw key most 0 l && l.all p
def iN (s:State) (v:Int):Bool:=((((((decide ((1:Int)<=s.version)) && (decide (s.version<=(3:Int)))) && ((decide ((1:Int)<=s.next)) && (decide (s.next<=(1048576:Int))))) && ((decide ((0:Int)<=s.keep)) && (decide (s.keep<=(8:Int))))) && ((decide ((0:Int)<=s.quota)) && (decide (s.quota<=(64:Int))))) && (decide (s.quota=(0:Int)) || decide ((3:Int)<=v))) && decide (((s.snaps.length:Nat):Int)<=(16:Int))
theorem jD {α:Type} {p:α->Bool} {key:α->Int} {most:Int} {l:List α} {k:Nat} {x:α} (hx:l[k]? = some x):aR p key most (l.take (k+1))=(aR p key most (l.take k) && (aW (key x) 1 most && p x) && (decide (((k:Nat):Int)=(0:Int)) || decide (aV key 0 (l.take k)<key x))):=by
 unfold aR
 rw [aD hx,dL,List.all_append]
 have e:aW (key x) (aV key 0 (l.take k)+1) most=true↔(aV key 0 (l.take k)<key x/\key x<=most):=by
  unfold aW; rw [Bool.and_eq_true,decide_eq_true_eq,decide_eq_true_eq]; omega
 have e1:aW (key x) 1 most=true↔(1<=key x/\key x<=most):=by
  unfold aW; rw [Bool.and_eq_true,decide_eq_true_eq,decide_eq_true_eq]
 have hp:∀ (q:List α) (a:Int),0<=a->aw key most a q=true->q≠[]->1<=aV key a q:=by
  intro q
  induction q with
  | nil=>intro a _ _ h; exact absurd rfl h
  | cons y q ih=>
   intro a ha hq _
   rw [aw,Bool.and_eq_true,aW,Bool.and_eq_true,decide_eq_true_eq] at hq
   cases q with
   | nil=>show 1<=key y; omega
   | cons z q=>exact ih (key y) (by omega) hq.2 (by simp)
 cases hr:aw key most 0 (l.take k) with
 | false=>simp
 | true=>
  by_cases hk:k=0
  ·subst hk
   have h0:aV key 0 (l.take 0)=0:=rfl
   have e2:aW (key x) (aV key 0 (l.take 0)+1) most=aW (key x) 1 most:=by rw [h0]; rfl
   rw [e2]; simp
  ·have hne:l.take k≠[]:=by
    intro h
    have h3:(l.take k).length=0:=by rw [h]; rfl
    have h2:=zR hx
    rw [List.length_take] at h3
    omega
   have h1:=hp _ _ (Int.le_refl 0) hr hne
   have e3:aW (key x) (aV key 0 (l.take k)+1) most=(aW (key x) 1 most && decide (aV key 0 (l.take k)<key x)):=by
    rw [Bool.eq_iff_iff,Bool.and_eq_true,e,e1,decide_eq_true_eq]; omega
   have e4:decide (((k:Nat):Int)=(0:Int))=false:=decide_eq_false (by omega)
   rw [e3,e4]
   cases aW (key x) 1 most <;> cases decide (aV key 0 (l.take k)<key x) <;> cases (l.take k).all p <;> cases hpx:p x <;> simp [hpx]
end Go.Proofs.YtdggohppeeaipaaGreat
namespace Go.Proofs.YtdggohppeeaipaaGreat
open Go.RowKit
theorem uU {B:Bool} {l:List Sess} {k:Nat} {x:Sess} (hx:l[k]? = some x):(B && aR aM Sess.client 8 (l.take (k+1)))=(((((((B && aR aM Sess.client 8 (l.take k)) && ((decide ((1:Int)<=x.client)) && (decide (x.client<=(8:Int))))) && ((decide ((0:Int)<=x.seq)) && (decide (x.seq<=(1048576:Int))))) && ((decide ((0:Int)<=x.last.code)) && (decide (x.last.code<=(99:Int))))) && ((decide ((0:Int)<=x.last.n)) && (decide (x.last.n<=(1048576:Int)))))) && (decide (((k:Nat):Int)=(0:Int)) || decide (aV Sess.client 0 (l.take k)<x.client))):=by
 rw [jD hx]
 show (B && (_ && (((decide ((1:Int)<=x.client)) && (decide (x.client<=(8:Int)))) && ((((decide ((0:Int)<=x.seq)) && (decide (x.seq<=(1048576:Int)))) && ((decide ((0:Int)<=x.last.code)) && (decide (x.last.code<=(99:Int))))) && ((decide ((0:Int)<=x.last.n)) && (decide (x.last.n<=(1048576:Int)))))) && _))=_
 cases B <;> cases aR aM Sess.client 8 (l.take k) <;> cases ((decide ((1:Int)<=x.client)) && (decide (x.client<=(8:Int)))) <;> cases ((decide ((0:Int)<=x.seq)) && (decide (x.seq<=(1048576:Int)))) <;> cases ((decide ((0:Int)<=x.last.code)) && (decide (x.last.code<=(99:Int)))) <;> cases ((decide ((0:Int)<=x.last.n)) && (decide (x.last.n<=(1048576:Int)))) <;> rfl
theorem vH {B:Bool} {l:List Opn} {k:Nat} {x:Opn} (hx:l[k]? = some x):(B && aR aN Opn.set 8 (l.take (k+1)))=((((B && aR aN Opn.set 8 (l.take k)) && ((decide ((1:Int)<=x.set)) && (decide (x.set<=(8:Int))))) && ((decide ((1:Int)<=x.client)) && (decide (x.client<=(8:Int))))) && (decide (((k:Nat):Int)=(0:Int)) || decide (aV Opn.set 0 (l.take k)<x.set))):=by
 rw [jD hx]
 show (B && (_ && (((decide ((1:Int)<=x.set)) && (decide (x.set<=(8:Int)))) && ((decide ((1:Int)<=x.client)) && (decide (x.client<=(8:Int))))) && _))=_
 cases B <;> cases aR aN Opn.set 8 (l.take k) <;> cases ((decide ((1:Int)<=x.set)) && (decide (x.set<=(8:Int)))) <;> cases ((decide ((1:Int)<=x.client)) && (decide (x.client<=(8:Int)))) <;> rfl
def cw (s:State) (v:Int) (l:List Snap):Bool:=aR (dG s.next v) Snap.id (IntKind.i64.wrap (s.next - 1)) l
theorem gp {B:Bool} {s:State} {v:Int} {l:List Snap} {k:Nat} {x:Snap} (hx:l[k]? = some x):(B && cw s v (l.take (k+1)))=(((B && cw s v (l.take k)) && dG s.next v x) && (decide (((k:Nat):Int)=(0:Int)) || decide (aV Snap.id 0 (l.take k)<x.id))):=by
 unfold cw
 rw [jD hx]
 have e:(aW x.id 1 (IntKind.i64.wrap (s.next - 1)) && dG s.next v x)=dG s.next v x:=by
  unfold dG
  cases aW x.id 1 (IntKind.i64.wrap (s.next - 1)) <;> simp
 rw [e]
 cases B <;> cases aR (dG s.next v) Snap.id (IntKind.i64.wrap (s.next - 1)) (l.take k) <;> cases dG s.next v x <;> rfl
theorem gQ {α:Type} {key:α->Int} {most:Int}:∀ {l:List α} {a:Int},0<=a->aw key most a l=true->∀ x ∈ l,1<=key x/\key x<=most
 | [],_,_,_,x,hx=>by cases hx
 | y :: l,a,ha,h,x,hx=>by
  rw [aw,Bool.and_eq_true,aW,Bool.and_eq_true,decide_eq_true_eq,decide_eq_true_eq] at h
  rcases List.mem_cons.1 hx with rfl | hx
  ·omega
  ·exact gQ (by omega) h.2 x hx
theorem Bj {z:Int} (h:I64 z):IntKind.i64.wrap z=z:=I64.wrap h
theorem Eg {v:Int} {x:Snap}:(decide (((x.tag.b.length:Nat):Int)<=16) && (decide (x.tag=⟨[]⟩) || decide (3<=v)))=decide (((x.tag.b.length:Nat):Int)<=fK v):=by
 have e:x.tag=⟨[]⟩↔x.tag.b.length=0:=by
  constructor
  ·intro h; rw [h]; rfl
  ·intro h; cases hx:x.tag with | mk b=>rw [hx] at h; simp at h; rw [h]
 rw [Bool.eq_iff_iff,Bool.and_eq_true,Bool.or_eq_true,decide_eq_true_eq,decide_eq_true_eq,decide_eq_true_eq,decide_eq_true_eq,e,fK]
 split <;> omega
theorem rS (l:List Int):decide (dk l=0)=ck l:=by
 unfold dk; cases ck l <;> rfl
theorem qz {next v:Int} {x:Snap} (hw:IntKind.i64.wrap (next - 1)=next - 1) (h:1<=x.id/\x.id<=next - 1):dG next v x=bE v (fK v) x:=by
 have e:aW x.id 1 (next - 1)=true:=by rw [aW,Bool.and_eq_true,decide_eq_true_eq,decide_eq_true_eq]; exact h
 unfold dG bE
 rw [hw,e,rS,<- Eg]
 cases ck x.chunks <;> cases aW x.set 1 8 <;> cases (!x.held || decide (2<=v)) <;> simp
theorem wC {q v:Int}:(((decide ((0:Int)<=q)) && (decide (q<=(64:Int)))) && (decide (q=(0:Int)) || decide ((3:Int)<=v)))=aW q 0 (if v<3 then 0 else 64):=by
 rw [Bool.eq_iff_iff,aW]
 simp only [Bool.and_eq_true,Bool.or_eq_true,decide_eq_true_eq]
 split <;> omega
theorem FF {s:State} {v:Int} {k k2 k3:Nat} (h1:s.sess.length<=k) (h2:s.opens.length<=k2) (h3:s.snaps.length<=k3) :
  (((iN s v && aR aM Sess.client 8 (s.sess.take k)) && aR aN Opn.set 8 (s.opens.take k2)) && cw s v (s.snaps.take k3)) = !(((!cT s v || !iA s) || !g_ s) || !dm s v):=by
 rw [List.take_of_length_le h1,List.take_of_length_le h2,List.take_of_length_le h3]
 have e0:iN s v=(cT s v && decide (((s.snaps.length:Nat):Int)<=(16:Int))):=by
  unfold iN cT
  rw [<- wC]
  show ((((_ && aW s.next 1 1048576) && _) && _) && _ && _)=_
  simp only [aW,Bool.and_assoc]
 have e1:aR aM Sess.client 8 s.sess=iA s:=rfl
 have e2:aR aN Opn.set 8 s.opens=g_ s:=rfl
 rw [e0,e1,e2]
 cases hn:cT s v with
 | false=>simp
 | true=>
  have hnx:1<=s.next/\s.next<=1048576:=by
   unfold cT at hn
   simp only [Bool.and_eq_true,aW,decide_eq_true_eq] at hn
   exact hn.1.1.2
  have hw:IntKind.i64.wrap (s.next - 1)=s.next - 1:=Bj ⟨by omega,by omega⟩
  have e3:(decide (((s.snaps.length:Nat):Int)<=(16:Int)) && cw s v s.snaps)=dm s v:=by
   unfold cw aR dm
   rw [hw]
   have ed:decide (16<((s.snaps.length:Nat):Int)) = !decide (((s.snaps.length:Nat):Int)<=(16:Int)):=by
    rw [<- decide_not,Bool.eq_iff_iff,decide_eq_true_eq,decide_eq_true_eq]; omega
   rw [ed]
   cases hr:aw Snap.id (s.next - 1) 0 s.snaps with
   | false=>simp
   | true=>
    have:s.snaps.all (dG s.next v)=s.snaps.all (bE v (fK v)):=by
     rw [Bool.eq_iff_iff,List.all_eq_true,List.all_eq_true]
     constructor
     ·intro h x hx; rw [<- qz hw (gQ (Int.le_refl 0) hr x hx)]; exact h x hx
     ·intro h x hx; rw [qz hw (gQ (Int.le_refl 0) hr x hx)]; exact h x hx
    rw [this]
    cases decide (((s.snaps.length:Nat):Int)<=(16:Int)) <;> simp
  rw [<- e3]
  cases iA s <;> cases g_ s <;> cases decide (((s.snaps.length:Nat):Int)<=(16:Int)) <;> cases cw s v s.snaps <;> rfl
theorem Fy {s:State} {v:Int} {k k2 k3:Nat} (hv:(!(aW v 1 3))=false) (h1:s.sess.length<=k) (h2:s.opens.length<=k2) (h3:s.snaps.length<=k3)
  (h:(!(((iN s v && aR aM Sess.client 8 (s.sess.take k)) && aR aN Opn.set 8 (s.opens.take k2)) && cw s v (s.snaps.take k3)))=true):6=mayF s v:=by
 rw [FF h1 h2 h3,Bool.not_not] at h
 rw [mayF,hv,if_neg (by decide),if_pos h]
theorem FZ {s:State} {v:Int} {k k2 k3:Nat} (hv:(!(aW v 1 3))=false) (h1:s.sess.length<=k) (h2:s.opens.length<=k2) (h3:s.snaps.length<=k3)
  (h:(!(((iN s v && aR aM Sess.client 8 (s.sess.take k)) && aR aN Opn.set 8 (s.opens.take k2)) && cw s v (s.snaps.take k3)))=false):0=mayF s v:=by
 rw [FF h1 h2 h3,Bool.not_not] at h
 rw [mayF,hv,if_neg (by decide),h,if_neg (by decide)]
end Go.Proofs.YtdggohppeeaipaaGreat
namespace Go.Proofs.YtdggohppeeaipaaGreat
open Go.RowKit
def bP (k:Int):Int:=kV 0 k [((1:Int),(1:Int)),((2:Int),(1:Int)),((3:Int),(1:Int)),((4:Int),(1:Int)),((5:Int),(1:Int)),((6:Int),(1:Int)),((7:Int),(1:Int)),((8:Int),(1:Int)),((9:Int),(2:Int)),((10:Int),(2:Int)),((11:Int),(3:Int)),((12:Int),(3:Int))]
theorem BL {k:Int} (h:1<=k/\k<=12):bP k=if k<=8 then 1 else if k<=10 then 2 else 3:=by
 have:k=1\/k=2\/k=3\/k=4\/k=5\/k=6\/k=7\/k=8\/k=9\/k=10\/k=11\/k=12:=by omega
 rcases this with rfl | rfl | rfl | rfl | rfl | rfl | rfl | rfl | rfl | rfl | rfl | rfl <;> rfl
theorem BH {k:Int} (h:¬ (1<=k/\k<=12)):bP k=0:=by
 unfold bP
 simp only [kV]
 repeat rw [if_neg (by omega)]
theorem sB {n a b:Int} (h:aW n a b=true):a<=n/\n<=b:=by unfold aW at h; rw [Bool.and_eq_true,decide_eq_true_eq,decide_eq_true_eq] at h; exact h
theorem HH {n a b:Int} (h:aW n a b=false):¬ (a<=n/\n<=b):=fun h2=>by
 have:aW n a b=true:=by unfold aW; rw [Bool.and_eq_true,decide_eq_true_eq,decide_eq_true_eq]; exact h2
 rw [h] at this; cases this
def Bo (c:Command):Command:={ c with chunks:=c.chunks.take 12,text:=c.text.cut 0 40 }
def eQ (x:Int) (l:List Int):Int:=match l.findIdx? (fun y=>decide (x=y)) with | some i=>(i:Int) | none=>-1
theorem wH {x y:Int} {l:List Int} {k:Nat} (h:∀ j y,j<k->l[j]? = some y->¬ x=y) (hy:l[k]? = some y) (hxy:x=y):(k:Int)=eQ x l:=by
 have:l.findIdx? (fun y=>decide (x=y))=some k:=by
  obtain ⟨hk,rfl⟩:=List.getElem?_eq_some_iff.1 hy
  rw [List.findIdx?_eq_some_iff_getElem]
  exact ⟨hk,decide_eq_true hxy,fun j hj=>by simpa using h j _ hj (List.getElem?_eq_getElem (by omega))⟩
 simp [eQ,this]
theorem uE (x:Int) (l:List Int):decide (0<=eQ x l)=l.contains x:=by
 unfold eQ
 cases h:l.findIdx? (fun y=>decide (x=y)) with
 | none=>
  rw [List.findIdx?_eq_none_iff] at h
  have:l.contains x=false:=by
   rw [<- Bool.not_eq_true,List.contains_iff_mem]
   intro hm; have:=h x hm; simp at this
  rw [this]; rfl
 | some i=>
  rw [List.findIdx?_eq_some_iff_getElem] at h
  obtain ⟨hi,hp,_⟩:=h
  have:l.contains x=true:=by
   rw [List.contains_iff_mem,of_decide_eq_true hp]; exact List.getElem_mem hi
  rw [this]; simp
def kv (n most:Int) (named:Bool):Bool:=if named then (decide (1<=n) && decide (n<=most)) else decide (n=0)
def iq (k:Int):Int × Int:=kV (0,0) k [((6:Int),((0:Int),(8:Int))),((8:Int),((2:Int),(3:Int))),((12:Int),((0:Int),(64:Int)))]
def wq (c:Command):Bool:=if c.kind=3 then ck c.chunks else decide (((c.chunks.length:Nat):Int)=0)
def GA (c:Command):Bool:=if c.kind=11 then decide (((c.text.b.length:Nat):Int)<=16) else decide (c.text=⟨[]⟩)
def fL (c:Command):Bool:=((((((((decide ((iq c.kind).1<=c.n) && decide (c.n<=(iq c.kind).2)) && wq c) && GA c) && kv c.client 8 (!([(8:Int)].contains c.kind))) && kv c.seq 1048576 (!([(1:Int),8].contains c.kind))) && kv c.set 8 ([(2:Int),3,4].contains c.kind)) && kv c.id 1048576 ([(5:Int),7,9,10,11].contains c.kind)))
def bI (c:Command) (v:Int):Int:=if !(aW v 1 3) || decide (bP c.kind=0) then 1 else if v<bP c.kind then 10 else if !fL c then 1 else 0
end Go.Proofs.YtdggohppeeaipaaGreat
namespace Go.Proofs.YtdggohppeeaipaaGreat
open Go.RowKit
def Cq (n:Int) (used:Bool) (lo hi:Int):Bool:=if used then (decide (lo<=n) && decide (n<=hi)) else decide (n=0)
def iU (k:Int):Int × Int:=(if k=8 then 2 else 0,if k=8 then 3 else if k=12 then 64 else 8)
theorem Bl {s:Str}:decide (((s.b.length:Nat):Int)=0)=decide (s=⟨[]⟩):=by
 cases s with | mk b=>
 cases b with
 | nil=>simp
 | cons a t=>rw [Bool.eq_iff_iff]; simp; omega
theorem pX {k:Int}:(!decide (k=8))=(!([(8:Int)].contains k)):=by
 rw [Bool.eq_iff_iff]; simp
theorem xa {k:Int}:(!decide (k=8) && !decide (k=1))=(!([(1:Int),8].contains k)):=by
 rw [Bool.eq_iff_iff]; simp; omega
theorem zh {k:Int}:(decide (2<=k) && decide (k<=4))=([(2:Int),3,4].contains k):=by
 rw [Bool.eq_iff_iff]; simp; omega
theorem Bd {k:Int}:((decide (k=5) || decide (k=7)) || (decide (9<=k) && decide (k<=11)))=([(5:Int),7,9,10,11].contains k):=by
 rw [Bool.eq_iff_iff]; simp; omega
theorem CM {k n:Int}:Cq n ((decide (k=6) || decide (k=8)) || decide (k=12)) (iU k).1 (iU k).2=(decide ((iq k).1<=n) && decide (n<=(iq k).2)):=by
 by_cases h6:k=6
 ·subst h6; rfl
 by_cases h8:k=8
 ·subst h8; rfl
 by_cases h12:k=12
 ·subst h12; rfl
 have e:iq k=(0,0):=by simp [iq,kV,h6,h8,h12]
 rw [e,Bool.eq_iff_iff]
 simp [Cq,h6,h8,h12]
 omega
theorem EE {c:Command}:(decide (((c.text.b.length:Nat):Int)=0) || (decide (c.kind=11) && decide (((c.text.b.length:Nat):Int)<=16)))=GA c:=by
 unfold GA
 by_cases h:c.kind=11
 ·rw [if_pos h,Bool.eq_iff_iff]; simp only [Bool.or_eq_true,Bool.and_eq_true,decide_eq_true_eq,h,true_and]; omega
 ·rw [if_neg h,Bl]; simp [h]
theorem Hi {n m:Int} {u:Bool}:Cq n u 1 m=kv n m u:=rfl
theorem xX {c:Command} :
  ((((((Cq c.client (!decide (c.kind=8)) 1 8 && Cq c.seq (!decide (c.kind=8) && !decide (c.kind=1)) 1 1048576) && Cq c.set (decide (2<=c.kind) && decide (c.kind<=4)) 1 8) &&
   Cq c.id ((decide (c.kind=5) || decide (c.kind=7)) || (decide (9<=c.kind) && decide (c.kind<=11))) 1 1048576) &&
   Cq c.n ((decide (c.kind=6) || decide (c.kind=8)) || decide (c.kind=12)) (iU c.kind).1 (iU c.kind).2) && wq c) &&
   (decide (((c.text.b.length:Nat):Int)=0) || (decide (c.kind=11) && decide (((c.text.b.length:Nat):Int)<=16))))=fL c:=by
 rw [xa,pX,zh,Bd,CM,EE]
 unfold fL
 simp only [Hi]
 ac_rfl
theorem Ga {c:Command} {v:Int} (h:(!(aW v 1 3) || decide (bP c.kind=0))=true):1=bI c v:=by rw [bI,if_pos h]
theorem CF {c:Command} {v:Int} (h:(!(aW v 1 3) || decide (bP c.kind=0))=false) (h2:v<bP c.kind):10=bI c v:=by rw [bI,h,if_neg (by decide),if_pos h2]
theorem CT {c:Command} {v:Int} (h:(!(aW v 1 3) || decide (bP c.kind=0))=false) (h2:¬ v<bP c.kind) (h3:(!fL c)=true):1=bI c v:=by rw [bI,h,if_neg (by decide),if_neg h2,if_pos h3]
theorem E_ {c:Command} {v:Int} (h:(!(aW v 1 3) || decide (bP c.kind=0))=false) (h2:¬ v<bP c.kind) (h3:(!fL c)=false):0=bI c v:=by rw [bI,h,if_neg (by decide),if_neg h2,h3,if_neg (by decide)]
end Go.Proofs.YtdggohppeeaipaaGreat
namespace Go.Proofs.YtdggohppeeaipaaGreat
open Go.RowKit
end Go.Proofs.YtdggohppeeaipaaGreat
namespace Go.Proofs.YtdggohppeeaipaaGreat
open Go.RowKit
def jo (k:Int):Bool:=decide (1<=k) && decide (k<=3)
theorem tX {α:Type} {a b:List α} {k:Nat} {d:α} (h:a.take k=b.take k) (ha:k<a.length) (hb:k<b.length) (e:a.getD k d=b.getD k d):a.take (k+1)=b.take (k+1):=by
 have h1:a[k]? = some (a.getD k d):=by rw [List.getD_eq_getElem?_getD,List.getElem?_eq_getElem ha]; rfl
 have h2:b[k]? = some (b.getD k d):=by rw [List.getD_eq_getElem?_getD,List.getElem?_eq_getElem hb]; rfl
 rw [aD h1,aD h2,h,e]
theorem mj {s:Str} {n:Nat} (h:(s.b.length:Int)<=n):s=⟨s.b.take n⟩:=by
 cases s; rw [List.take_of_length_le (by simpa using h)]
theorem DB {l:List Int} {k:Nat} {x:Int} (hx:l[k]? = some x):x=aV id 0 (l.take (k+1)):=bF (key:=id) hx
theorem xf {l:List Int} {k:Nat} {x:Int} (h:aw id 64 0 (l.take k)=true) (hx:l[k]? = some x) (h1:aV id 0 (l.take k)<x) (h2:x<=64):aw id 64 0 (l.take (k+1))=true:=fN (key:=id) h hx (by dsimp only [id]; omega) (by dsimp only [id]; omega)
def Fo (l:List Int):List (Nat × LI):=[(5,{ σ:=Nat,F:=fun k=>([(3,one (.int (aV id 0 (l.take k)))),(14,one (.fz .int (l))),(15,one (.int (l).length)),(16,one (.int k))],[]),J:=fun k=>k<=l.length/\aw id 64 0 (l.take k)=true/\1<=l.length/\l.length<=8,μ:=fun k=>(l).length - k })]
def Ch (a:List Int) (b:List Int):List (Nat × LI):=[(4,{ σ:=Nat,F:=fun k=>([(0,one (.fz .int (a))),(1,one (.fz .int (b))),(5,one (.int k))],[]),J:=fun k=>k<=a.length/\a.length=b.length/\a.take k=b.take k,μ:=fun k=>a.length - k })]
theorem AU (k:Int) (r0:Bool):cN aI gG [] Tryz.f120 [.c (.int (k))] [] [.c (.bool (.atom (r0)))]=(I64 k->(decide ((1:Int)<=k) && decide (k<=(3:Int)))=r0):=by kernel_rfl
theorem Bg (k:Int):Sat Tryz.prog (av aI) 120 [.c (.int (k))] [] ⟨[],[.c (.bool (.atom ((jo k))))],none,false⟩:=by
 refine aS cD [] Tryz.func120 (by decide) (by kernel_rfl) ?_
 rw [AU]
 grind [jo]
theorem FC (l:List Int) (r0:Bool):cN aI gG (Fo l) Tryz.f140 [.c (.fz .int (l))] [] [.c (.bool (.atom (r0)))]=((fun (q3:Int)=>(fun (q2:Int)=>(fun (q1:Nat)=>(fun (q0:Prop)=>l.length*(8:Nat)<=(140737488355328:Nat)->(q3<(1:Int)\/(8:Int)<q3->false=r0)/\((1:Int)<=q3/\q3<=(8:Int)->∃ (s0:Nat),(q2=aV id q2 (List.take s0 l)/\l=l/\q3=(↑q1:Int)/\q2=(↑s0:Int))/\(s0<=q1/\aw id (64:Int) q2 (List.take s0 l)=true/\q0)/\∀ (s:Nat),s<=q1/\aw id (64:Int) q2 (List.take s l)=true/\q0->((↑s:Int)<(↑q1:Int)->q2<=(↑s:Int)/\(↑s:Int)<q3/\∀ (x:Int),l[s]? = some x->I64 x->(x<=aV id q2 (List.take s l)\/(64:Int)<x->false=r0)/\(aV id q2 (List.take s l)<x/\x<=(64:Int)->I64 ((↑s:Int)+(1:Int))/\∃ (s':Nat),(x=aV id q2 (List.take s' l)/\l=l/\(↑q1:Int)=(↑q1:Int)/\(↑s:Int)+(1:Int)=(↑s':Int))/\(s' <= q1/\aw id (64:Int) q2 (List.take s' l)=true/\q0)/\q1 - s' < q1 - s))/\((↑q1:Int)<=(↑s:Int)->true=r0))) ((1:Nat)<=q1/\q1<=(8:Nat))) l.length) (0:Int)) (↑l.length:Int)):=by kernel_rfl
theorem Fx (l:List Int):Sat Tryz.prog (av aI) 140 [.c (.fz .int (l))] [] ⟨[],[.c (.bool (.atom ((ck l))))],none,false⟩:=by
 refine aS cD (Fo l) Tryz.func140 (by decide) (by kernel_rfl) ?_
 rw [FC]
 (repeat' (first | refine And.intro ?_ ?_ | intro))
 all_goals try (grind [lR,gg,gO,DB,xf,aw,aV])
 all_goals (refine ⟨0,?_⟩; (repeat' (first | refine And.intro ?_ ?_ | intro)))
 all_goals try (grind [lR,gg,gO,DB,xf,aw,aV])
 all_goals (refine ⟨‹Nat› + 1,?_⟩; (repeat' (first | refine And.intro ?_ ?_ | intro)))
 all_goals grind [lR,gg,gO,DB,xf,aw,aV]
theorem Eo (a:List Int) (b:List Int) (r0:Bool):cN aI gG (Ch a b) Tryz.f130 [.c (.fz .int (a)),.c (.fz .int (b))] [] [.c (.bool (.atom (r0)))]=((fun (q1:Nat)=>(fun (q0:Int)=>a.length*(8:Nat)<=(140737488355328:Nat)->b.length*(8:Nat)<=(140737488355328:Nat)->(¬q0=(↑b.length:Int)->false=r0)/\(q0=(↑b.length:Int)->∃ (s0:Nat),(a=a/\b=b/\(0:Int)=(↑s0:Int))/\(s0<=q1/\q1=b.length/\List.take s0 a=List.take s0 b)/\∀ (s:Nat),(fun (q2:Prop)=>s<=q1/\q1=b.length/\List.take s a=List.take s b->((↑s:Int)<q0->(0:Int)<=(↑s:Int)/\(↑s:Int)<q0/\(0:Int)<=(↑s:Int)/\(↑s:Int)<(↑b.length:Int)/\(I64 (a.getD s (dflt Sh.int))->I64 (b.getD s (dflt Sh.int))->(¬q2->false=r0)/\(q2->I64 ((↑s:Int)+(1:Int))/\∃ (s':Nat),(a=a/\b=b/\(↑s:Int)+(1:Int)=(↑s':Int))/\(s' <= q1/\q1=b.length/\List.take s' a=List.take s' b)/\q1 - s' < q1 - s)))/\(q0<=(↑s:Int)->true=r0)) (a.getD s (dflt Sh.int)=b.getD s (dflt Sh.int)))) (↑a.length:Int)) a.length):=by kernel_rfl
theorem EG (a:List Int) (b:List Int):Sat Tryz.prog (av aI) 130 [.c (.fz .int (a)),.c (.fz .int (b))] [] ⟨[],[.c (.bool (.atom ((decide (a=b)))))],none,false⟩:=by
 refine aS cD (Ch a b) Tryz.func130 (by decide) (by kernel_rfl) ?_
 rw [Eo]
 (repeat' (first | refine And.intro ?_ ?_ | intro))
 all_goals try (grind [aD])
 all_goals (refine ⟨0,?_⟩; (repeat' (first | refine And.intro ?_ ?_ | intro)))
 all_goals try (grind [aD])
 all_goals (refine ⟨‹Nat› + 1,?_⟩; (repeat' (first | refine And.intro ?_ ?_ | intro)))
 all_goals first | exact tX (by grind) (by omega) (by omega) (by with_reducible assumption) | grind
theorem CW (x:Int) (r0:Int):cN aI gG [] Tryz.f119 [.c (.int (x))] [] [.c (.int (r0))]=((fun (q0:Option (den Sh.int))=>I64 x->((fun (j:Int)=>if j=(12:Int) then some (3:Int) else (fun (j:Int)=>if j=(11:Int) then some (3:Int) else (fun (j:Int)=>if j=(10:Int) then some (2:Int) else (fun (j:Int)=>if j=(9:Int) then some (2:Int) else (fun (j:Int)=>if j=(8:Int) then q0 else (fun (j:Int)=>if j=(7:Int) then q0 else (fun (j:Int)=>if j=(6:Int) then q0 else (fun (j:Int)=>if j=(5:Int) then q0 else (fun (j:Int)=>if j=(4:Int) then q0 else (fun (j:Int)=>if j=(3:Int) then q0 else (fun (j:Int)=>if j=(2:Int) then q0 else (fun (j:Int)=>if j=(1:Int) then q0 else (fun (_:Int)=>none) j) j) j) j) j) j) j) j) j) j) j) j) x).getD (dflt Sh.int)=r0) (some (1:Int))):=by kernel_rfl
theorem DH (x:Int):Sat Tryz.prog (av aI) 119 [.c (.int (x))] [] ⟨[],[.c (.int ((bP x)))],none,false⟩:=by
 refine aS cD [] Tryz.func119 (by decide) (by kernel_rfl) ?_
 rw [CW]
 intro _
 simp only [bP,kV]
 by_cases h:1<=x/\x<=12
 ·have h2:x=1\/x=2\/x=3\/x=4\/x=5\/x=6\/x=7\/x=8\/x=9\/x=10\/x=11\/x=12:=by omega
  rcases h2 with rfl | rfl | rfl | rfl | rfl | rfl | rfl | rfl | rfl | rfl | rfl | rfl <;> rfl
 ·have h1:¬ x=1:=by omega
  have h2:¬ x=2:=by omega
  have h3:¬ x=3:=by omega
  have h4:¬ x=4:=by omega
  have h5:¬ x=5:=by omega
  have h6:¬ x=6:=by omega
  have h7:¬ x=7:=by omega
  have h8:¬ x=8:=by omega
  have h9:¬ x=9:=by omega
  have h10:¬ x=10:=by omega
  have h11:¬ x=11:=by omega
  have h12:¬ x=12:=by omega
  simp [h1,h2,h3,h4,h5,h6,h7,h8,h9,h10,h11,h12,dflt]
theorem Gg (s:Span) (k:Int) (r0:Bool):cN aI gG [] Tryz.f139 [.agg (cellsOf (.nm .span) s),.c (.int (k))] [] [.c (.bool (.atom (r0)))]=(I64 s.lo->I64 s.hi->I64 k->(decide (s.lo<=k) && decide (k<=s.hi))=r0):=by kernel_rfl
theorem Fe (s:Span) (k:Int):Sat Tryz.prog (av aI) 139 [.agg (cellsOf (.nm .span) s),.c (.int (k))] [] ⟨[],[.c (.bool (.atom ((decide (s.lo<=k) && decide (k<=s.hi)))))],none,false⟩:=by
 refine aS cD [] Tryz.func139 (by decide) (by kernel_rfl) ?_
 rw [Gg]
 grind
theorem xo (n:Int) (a:Int) (b:Int) (r0:Bool):cN aI gG [] Tryz.f110 [.c (.int (n)),.c (.int (a)),.c (.int (b))] [] [.c (.bool (.atom (r0)))]=(I64 n->I64 a->I64 b->(decide (a<=n) && decide (n<=b))=r0):=by kernel_rfl
theorem xi (n:Int) (a:Int) (b:Int):Sat Tryz.prog (av aI) 110 [.c (.int (n)),.c (.int (a)),.c (.int (b))] [] ⟨[],[.c (.bool (.atom ((aW n a b))))],none,false⟩:=by
 refine aS cD [] Tryz.func110 (by decide) (by kernel_rfl) ?_
 rw [xo]
 grind [aW]
theorem Gh (n:Int) (a:Int) (b:Int) (r0:Bool):cN aI gG [] Tryz.f67 [.c (.int (n)),.c (.int (a)),.c (.int (b))] [] [.c (.bool (.atom (r0)))]=(I64 n->I64 a->I64 b->(decide (a<=n) && decide (n<=b))=r0):=by kernel_rfl
theorem Fv (n:Int) (a:Int) (b:Int):Sat Tryz.prog (av aI) 67 [.c (.int (n)),.c (.int (a)),.c (.int (b))] [] ⟨[],[.c (.bool (.atom ((aW n a b))))],none,false⟩:=by
 refine aS cD [] Tryz.func67 (by decide) (by kernel_rfl) ?_
 rw [Gh]
 grind [aW]
theorem FU (n:Int) (a:Int) (b:Int) (r0:Bool):cN aI gG [] Tryz.f69 [.c (.int (n)),.c (.int (a)),.c (.int (b))] [] [.c (.bool (.atom (r0)))]=(I64 n->I64 a->I64 b->(decide (a<=n) && decide (n<=b))=r0):=by kernel_rfl
theorem FE (n:Int) (a:Int) (b:Int):Sat Tryz.prog (av aI) 69 [.c (.int (n)),.c (.int (a)),.c (.int (b))] [] ⟨[],[.c (.bool (.atom ((aW n a b))))],none,false⟩:=by
 refine aS cD [] Tryz.func69 (by decide) (by kernel_rfl) ?_
 rw [FU]
 grind [aW]
theorem sI (x:Sess) (r0:Int):cN aI gG [] Tryz.f86 [.agg (cellsOf (.nm .sess) x)] [] [.c (.int (r0))]=(I64 x.client->I64 x.seq->I64 x.last.code->I64 x.last.n->x.client=r0):=by kernel_rfl
theorem rR (x:Sess):Sat Tryz.prog (av aI) 86 [.agg (cellsOf (.nm .sess) x)] [] ⟨[],[.c (.int ((x.client)))],none,false⟩:=by
 refine aS cD [] Tryz.func86 (by decide) (by kernel_rfl) ?_
 rw [sI]
 grind
theorem BA (x:Opn) (r0:Int):cN aI gG [] Tryz.f115 [.agg (cellsOf (.nm .opn) x)] [] [.c (.int (r0))]=(I64 x.set->I64 x.client->x.set=r0):=by kernel_rfl
theorem BK (x:Opn):Sat Tryz.prog (av aI) 115 [.agg (cellsOf (.nm .opn) x)] [] ⟨[],[.c (.int ((x.set)))],none,false⟩:=by
 refine aS cD [] Tryz.func115 (by decide) (by kernel_rfl) ?_
 rw [BA]
 grind
theorem Dn (x:Snap) (r0:Int):cN aI gG [] Tryz.f90 [.agg (cellsOf (.nm .snap) x)] [] [.c (.int (r0))]=(I64 x.id->I64 x.set->x.chunks.length*(8:Nat)<=(140737488355328:Nat)->x.tag.b.length<=(140737488355328:Nat)->x.id=r0):=by kernel_rfl
theorem Et (x:Snap):Sat Tryz.prog (av aI) 90 [.agg (cellsOf (.nm .snap) x)] [] ⟨[],[.c (.int ((x.id)))],none,false⟩:=by
 refine aS cD [] Tryz.func90 (by decide) (by kernel_rfl) ?_
 rw [Dn]
 grind
theorem we (e:Int) (r0:Reply):cN aI gG [] Tryz.f34 [.c (.int (e))] [] [.agg (cellsOf (.nm .reply) r0)]=(I64 e->e=r0.code/\(0:Int)=r0.n):=by kernel_rfl
theorem vj (e:Int):Sat Tryz.prog (av aI) 34 [.c (.int (e))] [] ⟨[],[.agg (cellsOf (.nm .reply) (⟨e,0⟩))],none,false⟩:=by
 refine aS cD [] Tryz.func34 (by decide) (by kernel_rfl) ?_
 rw [we]
 grind
theorem FW (c:Command) (r0:Command):cN aI gG [] Tryz.f11 [.agg (cellsOf (.nm .command) c)] [] [.agg (cellsOf (.nm .command) r0)]=((fun (q10:Prop)=>(fun (q9:Prop)=>(fun (q8:Prop)=>(fun (q7:Prop)=>(fun (q6:Nat)=>(fun (q5:Prop)=>(fun (q4:Prop)=>(fun (q3:Int)=>(fun (q2:Prop)=>(fun (q1:Prop)=>(fun (q0:Int)=>I64 c.kind->I64 c.client->I64 c.seq->I64 c.set->I64 c.id->I64 c.n->q6*(8:Nat)<=(140737488355328:Nat)->c.text.b.length<=(140737488355328:Nat)->((12:Int)<(↑q6:Int)->(0:Int)<=(12:Int)/\(12:Int)<=(↑q6:Int)/\(q3<q0->(0:Int)<=q3/\q3<=q0/\q2/\q1/\q4/\q5/\q7/\q10/\q9/\q8)/\(q0<=q3->q2/\q1/\q4/\q5/\q7/\q10/\q9/\c.text=r0.text))/\((↑q6:Int)<=(12:Int)->(q3<q0->(0:Int)<=q3/\q3<=q0/\q2/\q1/\q4/\q5/\q7/\q10/\c.chunks=r0.chunks/\q8)/\(q0<=q3->q2/\q1/\q4/\q5/\q7/\q10/\c.chunks=r0.chunks/\c.text=r0.text))) (↑c.text.b.length:Int)) (c.client=r0.client)) (c.kind=r0.kind)) (40:Int)) (c.seq=r0.seq)) (c.set=r0.set)) c.chunks.length) (c.id=r0.id)) (Str.mk (List.take (40:Nat) c.text.b)=r0.text)) (List.take (12:Nat) c.chunks=r0.chunks)) (c.n=r0.n)):=by kernel_rfl
theorem FK (c:Command):Sat Tryz.prog (av aI) 11 [.agg (cellsOf (.nm .command) c)] [] ⟨[],[.agg (cellsOf (.nm .command) (Bo c))],none,false⟩:=by
 refine aS cD [] Tryz.func11 (by decide) (by kernel_rfl) ?_
 rw [FW]
 simp only [Bo,Str.cut]; (repeat' (first | refine And.intro ?_ ?_ | intro)) <;> first | trivial | rfl | omega | (symm; exact List.take_of_length_le (by omega)) | exact mj (by omega)
def wJ:cR:=(bO 11 (bL (ai (kT (.nm .command)) aO) aP fun (c,_) (_)=>⟨[],[.agg (cellsOf (.nm .command) (Bo c))],none,false⟩) (bO 34 (bL (ai (kC cI) aO) aP fun (e,_) (_)=>⟨[],[.agg (cellsOf (.nm .reply) (⟨e,0⟩))],none,false⟩) (bO 90 (bL (ai (kT (.nm .snap)) aO) aP fun (x,_) (_)=>⟨[],[.c (.int ((x.id)))],none,false⟩) (bO 115 (bL (ai (kT (.nm .opn)) aO) aP fun (x,_) (_)=>⟨[],[.c (.int ((x.set)))],none,false⟩) (bO 86 (bL (ai (kT (.nm .sess)) aO) aP fun (x,_) (_)=>⟨[],[.c (.int ((x.client)))],none,false⟩) (bO 69 (bL (ai (kC cI) (ai (kC cI) (ai (kC cI) aO))) aP fun (n,a,b,_) (_)=>⟨[],[.c (.bool (.atom ((aW n a b))))],none,false⟩) (bO 67 (bL (ai (kC cI) (ai (kC cI) (ai (kC cI) aO))) aP fun (n,a,b,_) (_)=>⟨[],[.c (.bool (.atom ((aW n a b))))],none,false⟩) (bO 110 (bL (ai (kC cI) (ai (kC cI) (ai (kC cI) aO))) aP fun (n,a,b,_) (_)=>⟨[],[.c (.bool (.atom ((aW n a b))))],none,false⟩) (bO 139 (bL (ai (kT (.nm .span)) (ai (kC cI) aO)) aP fun (s,k,_) (_)=>⟨[],[.c (.bool (.atom ((decide (s.lo<=k) && decide (k<=s.hi)))))],none,false⟩) (bO 119 (bL (ai (kC cI) aO) aP fun (x,_) (_)=>⟨[],[.c (.int ((bP x)))],none,false⟩) (bO 130 (bL (ai (kC (cL .int)) (ai (kC (cL .int)) aO)) aP fun (a,b,_) (_)=>⟨[],[.c (.bool (.atom ((decide (a=b)))))],none,false⟩) (bO 140 (bL (ai (kC (cL .int)) aO) aP fun (l,_) (_)=>⟨[],[.c (.bool (.atom ((ck l))))],none,false⟩) (bO 120 (bL (ai (kC cI) aO) aP fun (k,_) (_)=>⟨[],[.c (.bool (.atom ((jo k))))],none,false⟩) gG)))))))))))))
theorem ky:bf Tryz.prog (av aI) wJ:=(aA (az (ab bD al) ao fun (c,_) (_) _=>FK c ) (aA (az (ab (aq au) al) ao fun (e,_) (_) _=>vj e ) (aA (az (ab bD al) ao fun (x,_) (_) _=>Et x ) (aA (az (ab bD al) ao fun (x,_) (_) _=>BK x ) (aA (az (ab bD al) ao fun (x,_) (_) _=>rR x ) (aA (az (ab (aq au) (ab (aq au) (ab (aq au) al))) ao fun (n,a,b,_) (_) _=>FE n a b ) (aA (az (ab (aq au) (ab (aq au) (ab (aq au) al))) ao fun (n,a,b,_) (_) _=>Fv n a b ) (aA (az (ab (aq au) (ab (aq au) (ab (aq au) al))) ao fun (n,a,b,_) (_) _=>xi n a b ) (aA (az (ab bD (ab (aq au) al)) ao fun (s,k,_) (_) _=>Fe s k ) (aA (az (ab (aq au) al) ao fun (x,_) (_) _=>DH x ) (aA (az (ab (aq bS) (ab (aq bS) al)) ao fun (a,b,_) (_) _=>EG a b ) (aA (az (ab (aq bS) al) ao fun (l,_) (_) _=>Fx l ) (aA (az (ab (aq au) al) ao fun (k,_) (_) _=>Bg k ) cD)))))))))))))
end Go.Proofs.YtdggohppeeaipaaGreat
namespace Go.Proofs.YtdggohppeeaipaaGreat
open Go.RowKit
theorem ak {n:Int} (h1:-9223372036854775808<=n) (h2:n<=9223372036854775807):I64 n:=⟨h1,h2⟩
def ah {α:Type} (key:α->Int) (want:Int) (l:List α):Int:=match l.findIdx? (fun x=>decide (key x=want)) with
 | some i=>(i:Int)
 | none=>-1
section
variable {α:Type} {key:α->Int} {want:Int} {l:List α} {k:Nat} {x:α}
theorem kZ:ah key want l = -1↔∀ x ∈ l,¬ key x=want:=by
 unfold ah
 cases h:l.findIdx? (fun x=>decide (key x=want)) with
 | none=>simpa using h
 | some i=>
  rw [List.findIdx?_eq_some_iff_getElem] at h
  obtain ⟨h1,h2,_⟩:=h
  simp only [decide_eq_true_eq] at h2
  constructor
  ·intro h; dsimp only at h; omega
  ·intro h; exact absurd h2 (h _ (List.getElem_mem h1))
theorem cX:ah key want (l.take 0) = -1:=rfl
theorem cu (h:ah key want (l.take k) = -1) (hx:l[k]? = some x) (hn:¬ key x=want):ah key want (l.take (k+1)) = -1:=by
 rw [kZ] at h ⊢
 rw [aD hx]
 intro y hy
 rcases List.mem_append.1 hy with hy | hy
 ·exact h y hy
 ·rw [List.mem_singleton] at hy; subst hy; exact hn
theorem ct (h:ah key want (l.take k) = -1) (hk:l.length<=k):-1=ah key want l:=by
 rw [List.take_of_length_le hk] at h; exact h.symm
theorem bX (h:ah key want (l.take k) = -1) (hx:l[k]? = some x) (he:key x=want):(k:Int)=ah key want l:=by
 have:l.findIdx? (fun x=>decide (key x=want))=some k:=by
  rw [kZ] at h
  obtain ⟨hk,rfl⟩:=List.getElem?_eq_some_iff.1 hx
  rw [List.findIdx?_eq_some_iff_getElem]
  refine ⟨hk,decide_eq_true he,fun j hj=>?_⟩
  have:=h l[j] (by rw [List.mem_take_iff_getElem]; exact ⟨j,by omega,rfl⟩)
  simpa using this
 rw [ah,this]
end
def mD (l:List Sess) (want:Int):List (Nat × LI):=[(2,{ σ:=Nat,F:=fun k=>([(1,one (.int (want))),(2,one (.fn 86 [] [])),(9,one (.fz (.nm .sess) (l))),(10,one (.int (l).length)),(11,one (.int k))],[]),J:=fun k=>k<=l.length/\ah Sess.client want (l.take k) = -1,μ:=fun k=>(l).length - k })]
def ma (l:List Opn) (want:Int):List (Nat × LI):=[(2,{ σ:=Nat,F:=fun k=>([(1,one (.int (want))),(2,one (.fn 115 [] [])),(9,one (.fz (.nm .opn) (l))),(10,one (.int (l).length)),(11,one (.int k))],[]),J:=fun k=>k<=l.length/\ah Opn.set want (l.take k) = -1,μ:=fun k=>(l).length - k })]
def mB (l:List Snap) (want:Int):List (Nat × LI):=[(2,{ σ:=Nat,F:=fun k=>([(1,one (.int (want))),(2,one (.fn 90 [] [])),(9,one (.fz (.nm .snap) (l))),(10,one (.int (l).length)),(11,one (.int k))],[]),J:=fun k=>k<=l.length/\ah Snap.id want (l.take k) = -1,μ:=fun k=>(l).length - k })]
theorem pT (l:List Sess) (want:Int) (r0:Int):cN aI wJ (mD l want) Tryz.f85 [.c (.fz (.nm .sess) (l)),.c (.int (want)),.c (.fn 86 [] [])] [] [.c (.int (r0))]=((fun (q1:Int)=>(fun (q0:Nat)=>l.length*(32:Nat)<=(140737488355328:Nat)->I64 want->∃ (s0:Nat),(want=want/\l=l/\(↑l.length:Int)=(↑q0:Int)/\(0:Int)=(↑s0:Int))/\(s0<=q0/\ah Sess.client want (List.take s0 l) = -q1)/\∀ (s:Nat),s<=q0/\ah Sess.client want (List.take s l) = -q1->((↑s:Int)<(↑q0:Int)->(0:Int)<=(↑s:Int)/\(↑s:Int)<(↑l.length:Int)/\∀ (x:Sess),l[s]? = some x->I64 x.client->I64 x.seq->I64 x.last.code->I64 x.last.n->I64 x.client->(x.client=want->(↑s:Int)=r0)/\(¬x.client=want->I64 ((↑s:Int)+q1)/\∃ (s':Nat),(want=want/\l=l/\(↑q0:Int)=(↑q0:Int)/\(↑s:Int)+q1=(↑s':Int))/\(s' <= q0/\ah Sess.client want (List.take s' l) = -q1)/\q0 - s' < q0 - s))/\((↑q0:Int)<=(↑s:Int) -> -q1=r0)) l.length) (1:Int)):=by kernel_rfl
theorem qx (l:List Sess) (want:Int):Sat Tryz.prog (av aI) 85 [.c (.fz (.nm .sess) (l)),.c (.int (want)),.c (.fn 86 [] [])] [] ⟨[],[.c (.int ((ah Sess.client want l)))],none,false⟩:=by
 refine aS ky (mD l want) Tryz.func85 (by decide) (by kernel_rfl) ?_
 rw [pT]
 (repeat' (first | with_reducible refine And.intro ?_ ?_ | with_reducible refine and_imp.2 ?_ | intro))
 all_goals try (first | (first | with_reducible rfl | with_reducible assumption | omega | (refine ak ?_ ?_ <;> omega)) | exact (cX (key:=Sess.client)) | exact (bX (key:=Sess.client) (by with_reducible assumption) (by with_reducible assumption) (by with_reducible assumption)) | exact (ct (key:=Sess.client) (by with_reducible assumption) (by omega)) | exact (cu (key:=Sess.client) (by with_reducible assumption) (by with_reducible assumption) (by with_reducible assumption)))
 all_goals try (refine ⟨0,?_⟩; (repeat' (first | with_reducible refine And.intro ?_ ?_ | with_reducible refine and_imp.2 ?_ | intro)))
 all_goals try (first | (first | with_reducible rfl | with_reducible assumption | omega | (refine ak ?_ ?_ <;> omega)) | exact (cX (key:=Sess.client)) | exact (bX (key:=Sess.client) (by with_reducible assumption) (by with_reducible assumption) (by with_reducible assumption)) | exact (ct (key:=Sess.client) (by with_reducible assumption) (by omega)) | exact (cu (key:=Sess.client) (by with_reducible assumption) (by with_reducible assumption) (by with_reducible assumption)))
 all_goals try (refine ⟨‹Nat› + 1,?_⟩; (repeat' (first | with_reducible refine And.intro ?_ ?_ | with_reducible refine and_imp.2 ?_ | intro)))
 all_goals (first | (first | with_reducible rfl | with_reducible assumption | omega | (refine ak ?_ ?_ <;> omega)) | exact (cX (key:=Sess.client)) | exact (bX (key:=Sess.client) (by with_reducible assumption) (by with_reducible assumption) (by with_reducible assumption)) | exact (ct (key:=Sess.client) (by with_reducible assumption) (by omega)) | exact (cu (key:=Sess.client) (by with_reducible assumption) (by with_reducible assumption) (by with_reducible assumption)))
theorem qN (l:List Opn) (want:Int) (r0:Int):cN aI wJ (ma l want) Tryz.f123 [.c (.fz (.nm .opn) (l)),.c (.int (want)),.c (.fn 115 [] [])] [] [.c (.int (r0))]=((fun (q1:Int)=>(fun (q0:Nat)=>l.length*(16:Nat)<=(140737488355328:Nat)->I64 want->∃ (s0:Nat),(want=want/\l=l/\(↑l.length:Int)=(↑q0:Int)/\(0:Int)=(↑s0:Int))/\(s0<=q0/\ah Opn.set want (List.take s0 l) = -q1)/\∀ (s:Nat),s<=q0/\ah Opn.set want (List.take s l) = -q1->((↑s:Int)<(↑q0:Int)->(0:Int)<=(↑s:Int)/\(↑s:Int)<(↑l.length:Int)/\∀ (x:Opn),l[s]? = some x->I64 x.set->I64 x.client->I64 x.set->(x.set=want->(↑s:Int)=r0)/\(¬x.set=want->I64 ((↑s:Int)+q1)/\∃ (s':Nat),(want=want/\l=l/\(↑q0:Int)=(↑q0:Int)/\(↑s:Int)+q1=(↑s':Int))/\(s' <= q0/\ah Opn.set want (List.take s' l) = -q1)/\q0 - s' < q0 - s))/\((↑q0:Int)<=(↑s:Int) -> -q1=r0)) l.length) (1:Int)):=by kernel_rfl
theorem px (l:List Opn) (want:Int):Sat Tryz.prog (av aI) 123 [.c (.fz (.nm .opn) (l)),.c (.int (want)),.c (.fn 115 [] [])] [] ⟨[],[.c (.int ((ah Opn.set want l)))],none,false⟩:=by
 refine aS ky (ma l want) Tryz.func123 (by decide) (by kernel_rfl) ?_
 rw [qN]
 (repeat' (first | with_reducible refine And.intro ?_ ?_ | with_reducible refine and_imp.2 ?_ | intro))
 all_goals try (first | (first | with_reducible rfl | with_reducible assumption | omega | (refine ak ?_ ?_ <;> omega)) | exact (cX (key:=Opn.set)) | exact (bX (key:=Opn.set) (by with_reducible assumption) (by with_reducible assumption) (by with_reducible assumption)) | exact (ct (key:=Opn.set) (by with_reducible assumption) (by omega)) | exact (cu (key:=Opn.set) (by with_reducible assumption) (by with_reducible assumption) (by with_reducible assumption)))
 all_goals try (refine ⟨0,?_⟩; (repeat' (first | with_reducible refine And.intro ?_ ?_ | with_reducible refine and_imp.2 ?_ | intro)))
 all_goals try (first | (first | with_reducible rfl | with_reducible assumption | omega | (refine ak ?_ ?_ <;> omega)) | exact (cX (key:=Opn.set)) | exact (bX (key:=Opn.set) (by with_reducible assumption) (by with_reducible assumption) (by with_reducible assumption)) | exact (ct (key:=Opn.set) (by with_reducible assumption) (by omega)) | exact (cu (key:=Opn.set) (by with_reducible assumption) (by with_reducible assumption) (by with_reducible assumption)))
 all_goals try (refine ⟨‹Nat› + 1,?_⟩; (repeat' (first | with_reducible refine And.intro ?_ ?_ | with_reducible refine and_imp.2 ?_ | intro)))
 all_goals (first | (first | with_reducible rfl | with_reducible assumption | omega | (refine ak ?_ ?_ <;> omega)) | exact (cX (key:=Opn.set)) | exact (bX (key:=Opn.set) (by with_reducible assumption) (by with_reducible assumption) (by with_reducible assumption)) | exact (ct (key:=Opn.set) (by with_reducible assumption) (by omega)) | exact (cu (key:=Opn.set) (by with_reducible assumption) (by with_reducible assumption) (by with_reducible assumption)))
theorem pZ (l:List Snap) (want:Int) (r0:Int):cN aI wJ (mB l want) Tryz.f89 [.c (.fz (.nm .snap) (l)),.c (.int (want)),.c (.fn 90 [] [])] [] [.c (.int (r0))]=((fun (q1:Int)=>(fun (q0:Nat)=>l.length*(64:Nat)<=(140737488355328:Nat)->I64 want->∃ (s0:Nat),(want=want/\l=l/\(↑l.length:Int)=(↑q0:Int)/\(0:Int)=(↑s0:Int))/\(s0<=q0/\ah Snap.id want (List.take s0 l) = -q1)/\∀ (s:Nat),s<=q0/\ah Snap.id want (List.take s l) = -q1->((↑s:Int)<(↑q0:Int)->(0:Int)<=(↑s:Int)/\(↑s:Int)<(↑l.length:Int)/\∀ (x:Snap),l[s]? = some x->I64 x.id->I64 x.set->x.chunks.length*(8:Nat)<=(140737488355328:Nat)->x.tag.b.length<=(140737488355328:Nat)->I64 x.id->(x.id=want->(↑s:Int)=r0)/\(¬x.id=want->I64 ((↑s:Int)+q1)/\∃ (s':Nat),(want=want/\l=l/\(↑q0:Int)=(↑q0:Int)/\(↑s:Int)+q1=(↑s':Int))/\(s' <= q0/\ah Snap.id want (List.take s' l) = -q1)/\q0 - s' < q0 - s))/\((↑q0:Int)<=(↑s:Int) -> -q1=r0)) l.length) (1:Int)):=by kernel_rfl
theorem pq (l:List Snap) (want:Int):Sat Tryz.prog (av aI) 89 [.c (.fz (.nm .snap) (l)),.c (.int (want)),.c (.fn 90 [] [])] [] ⟨[],[.c (.int ((ah Snap.id want l)))],none,false⟩:=by
 refine aS ky (mB l want) Tryz.func89 (by decide) (by kernel_rfl) ?_
 rw [pZ]
 (repeat' (first | with_reducible refine And.intro ?_ ?_ | with_reducible refine and_imp.2 ?_ | intro))
 all_goals try (first | (first | with_reducible rfl | with_reducible assumption | omega | (refine ak ?_ ?_ <;> omega)) | exact (cX (key:=Snap.id)) | exact (bX (key:=Snap.id) (by with_reducible assumption) (by with_reducible assumption) (by with_reducible assumption)) | exact (ct (key:=Snap.id) (by with_reducible assumption) (by omega)) | exact (cu (key:=Snap.id) (by with_reducible assumption) (by with_reducible assumption) (by with_reducible assumption)))
 all_goals try (refine ⟨0,?_⟩; (repeat' (first | with_reducible refine And.intro ?_ ?_ | with_reducible refine and_imp.2 ?_ | intro)))
 all_goals try (first | (first | with_reducible rfl | with_reducible assumption | omega | (refine ak ?_ ?_ <;> omega)) | exact (cX (key:=Snap.id)) | exact (bX (key:=Snap.id) (by with_reducible assumption) (by with_reducible assumption) (by with_reducible assumption)) | exact (ct (key:=Snap.id) (by with_reducible assumption) (by omega)) | exact (cu (key:=Snap.id) (by with_reducible assumption) (by with_reducible assumption) (by with_reducible assumption)))
 all_goals try (refine ⟨‹Nat› + 1,?_⟩; (repeat' (first | with_reducible refine And.intro ?_ ?_ | with_reducible refine and_imp.2 ?_ | intro)))
 all_goals (first | (first | with_reducible rfl | with_reducible assumption | omega | (refine ak ?_ ?_ <;> omega)) | exact (cX (key:=Snap.id)) | exact (bX (key:=Snap.id) (by with_reducible assumption) (by with_reducible assumption) (by with_reducible assumption)) | exact (ct (key:=Snap.id) (by with_reducible assumption) (by omega)) | exact (cu (key:=Snap.id) (by with_reducible assumption) (by with_reducible assumption) (by with_reducible assumption)))
def qc:cR:=(bO 89 (bL (ai (kC (cL (.nm .snap))) (ai (kC cI) (ai (kC (mJ 90 [] [])) aO))) aP fun (l,want,_,_) (_)=>⟨[],[.c (.int ((ah Snap.id want l)))],none,false⟩) (bO 123 (bL (ai (kC (cL (.nm .opn))) (ai (kC cI) (ai (kC (mJ 115 [] [])) aO))) aP fun (l,want,_,_) (_)=>⟨[],[.c (.int ((ah Opn.set want l)))],none,false⟩) (bO 85 (bL (ai (kC (cL (.nm .sess))) (ai (kC cI) (ai (kC (mJ 86 [] [])) aO))) aP fun (l,want,_,_) (_)=>⟨[],[.c (.int ((ah Sess.client want l)))],none,false⟩) wJ)))
theorem fk:bf Tryz.prog (av aI) qc:=(aA (az (ab (aq bS) (ab (aq au) (ab (aq cj) al))) ao fun (l,want,_,_) (_) _=>pq l want ) (aA (az (ab (aq bS) (ab (aq au) (ab (aq cj) al))) ao fun (l,want,_,_) (_) _=>px l want ) (aA (az (ab (aq bS) (ab (aq au) (ab (aq cj) al))) ao fun (l,want,_,_) (_) _=>qx l want ) ky)))
end Go.Proofs.YtdggohppeeaipaaGreat
namespace Go.Proofs.YtdggohppeeaipaaGreat
open Go.RowKit
theorem AF {n r m:Nat} (h:aX n+1=aX r+m) (hr:128<=r):aX n+1=aX (r / 128)+(m+1):=by
 have:=lT (n:=r) (by omega); omega
theorem BW {n r m:Nat} (h:aX n+1=aX r+m) (hn:n<18446744073709551616):m<=10:=by
 have:=lg hn; have:=gr r; omega
theorem wA {n r m:Nat} (h:aX n+1=aX r+m) (hr:r<128):m=aX n:=by
 have:=gE hr; omega
section
variable {α:Type} {key:α->Int} {most:Int} {l:List α} {k:Nat} {x:α}
theorem il (h:aw key most 0 (l.take k)=true) (hx:l[k]? = some x) (hb:aW (key x) (aV key 0 (l.take k)+1) most=true):aw key most 0 (l.take (k+1))=true:=
 fN h hx (by have:=sB hb; omega) (sB hb).2
theorem iG (hx:l[k]? = some x) (hb:aW (key x) (aV key 0 (l.take k)+1) most=false):false=aw key most 0 l:=
 (jV hx (by have:=HH hb; omega)).symm
theorem hY (h:aw key most 0 (l.take k)=true) (hk:l.length<=k):true=aw key most 0 l:=(fW h hk).symm
theorem iC (hx:l[k]? = some x) (h0:0<=aV key 0 (l.take k)) (hb:aW (key x) (aV key 0 (l.take k)+1) most=true):0<=aV key 0 (l.take (k+1)):=by
 have:=sB hb; rw [<- bF hx]; omega
theorem iz (hx:l[k]? = some x) (hb:aW (key x) (aV key 0 (l.take k)+1) most=true) (hm:most<=1048576):aV key 0 (l.take (k+1))<=1048576:=by
 have:=sB hb; rw [<- bF hx]; omega
variable {p:α->Bool}
theorem iI (hx:l[k]? = some x) (hp:p x=false):false=l.all p:=(yh hx hp).symm
theorem iK (h:(l.take k).all p=true) (hk:l.length<=k):true=l.all p:=(xv h hk).symm
end
def Cy (n:U64):List (Nat × LI):=[(2,{ σ:=Nat × Nat,F:=fun s=>([(0,one (.u64 s.1)),(3,one (.int s.2))],[]),J:=fun s=>s.1<18446744073709551616/\aX n.n+1=aX s.1+s.2,μ:=fun s=>s.1 })]
def kn (l:List Sess) (most:Int):List (Nat × LI):=[(3,{ σ:=Nat,F:=fun k=>([(1,one (.int (most))),(2,one (.fn 86 [] [])),(7,one (.int (aV Sess.client 0 (l.take k)))),(10,one (.fz (.nm .sess) (l))),(11,one (.int (l).length)),(12,one (.int k))],[]),J:=fun k=>k<=l.length/\aw Sess.client most 0 (l.take k)=true/\0<=aV Sess.client 0 (l.take k)/\aV Sess.client 0 (l.take k)<=1048576,μ:=fun k=>(l).length - k })]
def jY (l:List Opn) (most:Int):List (Nat × LI):=[(3,{ σ:=Nat,F:=fun k=>([(1,one (.int (most))),(2,one (.fn 115 [] [])),(7,one (.int (aV Opn.set 0 (l.take k)))),(10,one (.fz (.nm .opn) (l))),(11,one (.int (l).length)),(12,one (.int k))],[]),J:=fun k=>k<=l.length/\aw Opn.set most 0 (l.take k)=true/\0<=aV Opn.set 0 (l.take k)/\aV Opn.set 0 (l.take k)<=1048576,μ:=fun k=>(l).length - k })]
def ki (l:List Snap) (most:Int):List (Nat × LI):=[(3,{ σ:=Nat,F:=fun k=>([(1,one (.int (most))),(2,one (.fn 90 [] [])),(7,one (.int (aV Snap.id 0 (l.take k)))),(10,one (.fz (.nm .snap) (l))),(11,one (.int (l).length)),(12,one (.int k))],[]),J:=fun k=>k<=l.length/\aw Snap.id most 0 (l.take k)=true/\0<=aV Snap.id 0 (l.take k)/\aV Snap.id 0 (l.take k)<=1048576,μ:=fun k=>(l).length - k })]
theorem Dm (n:U64) (r0:Int):cN aI qc (Cy n) Tryz.f146 [.c (.u64 (n).n)] [] [.c (.int (r0))]=((fun (q0:Nat)=>n.n<(18446744073709551616:Nat)->∃ (s0:Nat × Nat),(n.n=s0.fst/\(1:Int)=(↑s0.snd:Int))/\(s0.fst<(18446744073709551616:Nat)/\q0=aX s0.fst+s0.snd)/\∀ (s:Nat × Nat),s.fst<(18446744073709551616:Nat)/\q0=aX s.fst+s.snd->((↑(128:Nat):Int)<=(↑s.fst:Int)->(7:Nat)<(64:Nat)/\I64 ((↑s.snd:Int)+(1:Int))/\∃ (s':Nat × Nat),(s.fst / (2:Nat) ^ (7:Nat)=s'.fst/\(↑s.snd:Int)+(1:Int)=(↑s'.snd:Int))/\(s'.fst<(18446744073709551616:Nat)/\q0=aX s'.fst+s'.snd)/\s'.fst<s.fst)/\((↑s.fst:Int)<(↑(128:Nat):Int)->(↑s.snd:Int)=r0)) (aX n.n+(1:Nat))):=by kernel_rfl
theorem CY (n:U64):Sat Tryz.prog (av aI) 146 [.c (.u64 (n).n)] [] ⟨[],[.c (.int (((aX n.n:Int))))],none,false⟩:=by
 refine aS fk (Cy n) Tryz.func146 (by decide) (by kernel_rfl) ?_
 rw [Dm]
 intro hn
 refine ⟨(n.n,1),⟨rfl,rfl⟩,⟨hn,rfl⟩,fun s hs=>⟨fun h=>?_,fun h=>?_⟩⟩
 ·have h2:=AF hs.2 (by omega)
  have h3:=BW hs.2 hn
  exact ⟨by omega,by constructor <;> omega,(s.1 / 128,s.2+1),⟨rfl,by simp⟩,⟨by show s.1 / 128<_; omega,h2⟩,by show s.1 / 128<s.1; omega⟩
 ·exact congrArg Int.ofNat (wA hs.2 (by omega))
theorem oJ (l:List Sess) (most:Int) (r0:Bool):cN aI qc (kn l most) Tryz.f111 [.c (.fz (.nm .sess) (l)),.c (.int (most)),.c (.fn 86 [] [])] [] [.c (.bool (.atom (r0)))]=((fun (q1:Nat)=>(fun (q0:Int)=>l.length*(32:Nat)<=(140737488355328:Nat)->I64 most->∃ (s0:Nat),(fun (q2:Int)=>(most=most/\q0=q2/\l=l/\(↑l.length:Int)=(↑q1:Int)/\q0=(↑s0:Int))/\(s0<=q1/\aw Sess.client most q0 (List.take s0 l)=true/\q0<=q2/\q2<=(1048576:Int))/\∀ (s:Nat),(fun (q3:Int)=>s<=q1/\aw Sess.client most q0 (List.take s l)=true/\q0<=q3/\q3<=(1048576:Int)->((↑s:Int)<(↑q1:Int)->q0<=(↑s:Int)/\(↑s:Int)<(↑l.length:Int)/\∀ (x:Sess),(fun (q4:Bool)=>l[s]? = some x->I64 x.client->I64 x.seq->I64 x.last.code->I64 x.last.n->I64 x.client->I64 (q3+(1:Int))/\(q4=false->false=r0)/\(q4=true->I64 x.client->I64 ((↑s:Int)+(1:Int))/\∃ (s':Nat),(fun (q5:Int)=>(most=most/\x.client=q5/\l=l/\(↑q1:Int)=(↑q1:Int)/\(↑s:Int)+(1:Int)=(↑s':Int))/\(s' <= q1/\aw Sess.client most q0 (List.take s' l)=true/\q0<=q5/\q5<=(1048576:Int))/\q1 - s' < q1 - s) (aV Sess.client q0 (List.take s' l)))) (aW x.client (q3+(1:Int)) most))/\((↑q1:Int)<=(↑s:Int)->true=r0)) (aV Sess.client q0 (List.take s l))) (aV Sess.client q0 (List.take s0 l))) (0:Int)) l.length):=by kernel_rfl
theorem oA (l:List Sess) (most:Int) (h0:most<=1048576):Sat Tryz.prog (av aI) 111 [.c (.fz (.nm .sess) (l)),.c (.int (most)),.c (.fn 86 [] [])] [] ⟨[most<=1048576],[.c (.bool (.atom ((aw Sess.client most 0 l))))],none,false⟩:=by
 refine aS fk (kn l most) Tryz.func111 (by decide) (by kernel_rfl) ?_
 rw [oJ]
 (repeat' (first | with_reducible refine And.intro ?_ ?_ | with_reducible refine and_imp.2 ?_ | intro))
 all_goals try (first | (first | with_reducible rfl | with_reducible assumption | omega | (refine ak ?_ ?_ <;> omega)) | exact (il (key:=Sess.client) (by with_reducible assumption) (by with_reducible assumption) (by with_reducible assumption)) | exact (iG (key:=Sess.client) (by with_reducible assumption) (by with_reducible assumption)) | exact (hY (key:=Sess.client) (by with_reducible assumption) (by omega)) | exact (bF (key:=Sess.client) (by with_reducible assumption)) | exact (iC (key:=Sess.client) (by with_reducible assumption) (by with_reducible assumption) (by with_reducible assumption)) | exact (iz (key:=Sess.client) (by with_reducible assumption) (by with_reducible assumption) (by with_reducible assumption)) | exact rfl | exact Int.le_refl _ | exact (show (0:Int)<=1048576 by omega))
 all_goals try (refine ⟨0,?_⟩; (repeat' (first | with_reducible refine And.intro ?_ ?_ | with_reducible refine and_imp.2 ?_ | intro)))
 all_goals try (first | (first | with_reducible rfl | with_reducible assumption | omega | (refine ak ?_ ?_ <;> omega)) | exact (il (key:=Sess.client) (by with_reducible assumption) (by with_reducible assumption) (by with_reducible assumption)) | exact (iG (key:=Sess.client) (by with_reducible assumption) (by with_reducible assumption)) | exact (hY (key:=Sess.client) (by with_reducible assumption) (by omega)) | exact (bF (key:=Sess.client) (by with_reducible assumption)) | exact (iC (key:=Sess.client) (by with_reducible assumption) (by with_reducible assumption) (by with_reducible assumption)) | exact (iz (key:=Sess.client) (by with_reducible assumption) (by with_reducible assumption) (by with_reducible assumption)) | exact rfl | exact Int.le_refl _ | exact (show (0:Int)<=1048576 by omega))
 all_goals try (refine ⟨‹Nat› + 1,?_⟩; (repeat' (first | with_reducible refine And.intro ?_ ?_ | with_reducible refine and_imp.2 ?_ | intro)))
 all_goals (first | (first | with_reducible rfl | with_reducible assumption | omega | (refine ak ?_ ?_ <;> omega)) | exact (il (key:=Sess.client) (by with_reducible assumption) (by with_reducible assumption) (by with_reducible assumption)) | exact (iG (key:=Sess.client) (by with_reducible assumption) (by with_reducible assumption)) | exact (hY (key:=Sess.client) (by with_reducible assumption) (by omega)) | exact (bF (key:=Sess.client) (by with_reducible assumption)) | exact (iC (key:=Sess.client) (by with_reducible assumption) (by with_reducible assumption) (by with_reducible assumption)) | exact (iz (key:=Sess.client) (by with_reducible assumption) (by with_reducible assumption) (by with_reducible assumption)) | exact rfl | exact Int.le_refl _ | exact (show (0:Int)<=1048576 by omega))
theorem nS (l:List Opn) (most:Int) (r0:Bool):cN aI qc (jY l most) Tryz.f114 [.c (.fz (.nm .opn) (l)),.c (.int (most)),.c (.fn 115 [] [])] [] [.c (.bool (.atom (r0)))]=((fun (q1:Nat)=>(fun (q0:Int)=>l.length*(16:Nat)<=(140737488355328:Nat)->I64 most->∃ (s0:Nat),(fun (q2:Int)=>(most=most/\q0=q2/\l=l/\(↑l.length:Int)=(↑q1:Int)/\q0=(↑s0:Int))/\(s0<=q1/\aw Opn.set most q0 (List.take s0 l)=true/\q0<=q2/\q2<=(1048576:Int))/\∀ (s:Nat),(fun (q3:Int)=>s<=q1/\aw Opn.set most q0 (List.take s l)=true/\q0<=q3/\q3<=(1048576:Int)->((↑s:Int)<(↑q1:Int)->q0<=(↑s:Int)/\(↑s:Int)<(↑l.length:Int)/\∀ (x:Opn),(fun (q4:Bool)=>l[s]? = some x->I64 x.set->I64 x.client->I64 x.set->I64 (q3+(1:Int))/\(q4=false->false=r0)/\(q4=true->I64 x.set->I64 ((↑s:Int)+(1:Int))/\∃ (s':Nat),(fun (q5:Int)=>(most=most/\x.set=q5/\l=l/\(↑q1:Int)=(↑q1:Int)/\(↑s:Int)+(1:Int)=(↑s':Int))/\(s' <= q1/\aw Opn.set most q0 (List.take s' l)=true/\q0<=q5/\q5<=(1048576:Int))/\q1 - s' < q1 - s) (aV Opn.set q0 (List.take s' l)))) (aW x.set (q3+(1:Int)) most))/\((↑q1:Int)<=(↑s:Int)->true=r0)) (aV Opn.set q0 (List.take s l))) (aV Opn.set q0 (List.take s0 l))) (0:Int)) l.length):=by kernel_rfl
theorem oe (l:List Opn) (most:Int) (h0:most<=1048576):Sat Tryz.prog (av aI) 114 [.c (.fz (.nm .opn) (l)),.c (.int (most)),.c (.fn 115 [] [])] [] ⟨[most<=1048576],[.c (.bool (.atom ((aw Opn.set most 0 l))))],none,false⟩:=by
 refine aS fk (jY l most) Tryz.func114 (by decide) (by kernel_rfl) ?_
 rw [nS]
 (repeat' (first | with_reducible refine And.intro ?_ ?_ | with_reducible refine and_imp.2 ?_ | intro))
 all_goals try (first | (first | with_reducible rfl | with_reducible assumption | omega | (refine ak ?_ ?_ <;> omega)) | exact (il (key:=Opn.set) (by with_reducible assumption) (by with_reducible assumption) (by with_reducible assumption)) | exact (iG (key:=Opn.set) (by with_reducible assumption) (by with_reducible assumption)) | exact (hY (key:=Opn.set) (by with_reducible assumption) (by omega)) | exact (bF (key:=Opn.set) (by with_reducible assumption)) | exact (iC (key:=Opn.set) (by with_reducible assumption) (by with_reducible assumption) (by with_reducible assumption)) | exact (iz (key:=Opn.set) (by with_reducible assumption) (by with_reducible assumption) (by with_reducible assumption)) | exact rfl | exact Int.le_refl _ | exact (show (0:Int)<=1048576 by omega))
 all_goals try (refine ⟨0,?_⟩; (repeat' (first | with_reducible refine And.intro ?_ ?_ | with_reducible refine and_imp.2 ?_ | intro)))
 all_goals try (first | (first | with_reducible rfl | with_reducible assumption | omega | (refine ak ?_ ?_ <;> omega)) | exact (il (key:=Opn.set) (by with_reducible assumption) (by with_reducible assumption) (by with_reducible assumption)) | exact (iG (key:=Opn.set) (by with_reducible assumption) (by with_reducible assumption)) | exact (hY (key:=Opn.set) (by with_reducible assumption) (by omega)) | exact (bF (key:=Opn.set) (by with_reducible assumption)) | exact (iC (key:=Opn.set) (by with_reducible assumption) (by with_reducible assumption) (by with_reducible assumption)) | exact (iz (key:=Opn.set) (by with_reducible assumption) (by with_reducible assumption) (by with_reducible assumption)) | exact rfl | exact Int.le_refl _ | exact (show (0:Int)<=1048576 by omega))
 all_goals try (refine ⟨‹Nat› + 1,?_⟩; (repeat' (first | with_reducible refine And.intro ?_ ?_ | with_reducible refine and_imp.2 ?_ | intro)))
 all_goals (first | (first | with_reducible rfl | with_reducible assumption | omega | (refine ak ?_ ?_ <;> omega)) | exact (il (key:=Opn.set) (by with_reducible assumption) (by with_reducible assumption) (by with_reducible assumption)) | exact (iG (key:=Opn.set) (by with_reducible assumption) (by with_reducible assumption)) | exact (hY (key:=Opn.set) (by with_reducible assumption) (by omega)) | exact (bF (key:=Opn.set) (by with_reducible assumption)) | exact (iC (key:=Opn.set) (by with_reducible assumption) (by with_reducible assumption) (by with_reducible assumption)) | exact (iz (key:=Opn.set) (by with_reducible assumption) (by with_reducible assumption) (by with_reducible assumption)) | exact rfl | exact Int.le_refl _ | exact (show (0:Int)<=1048576 by omega))
theorem nL (l:List Snap) (most:Int) (r0:Bool):cN aI qc (ki l most) Tryz.f132 [.c (.fz (.nm .snap) (l)),.c (.int (most)),.c (.fn 90 [] [])] [] [.c (.bool (.atom (r0)))]=((fun (q1:Nat)=>(fun (q0:Int)=>l.length*(64:Nat)<=(140737488355328:Nat)->I64 most->∃ (s0:Nat),(fun (q2:Int)=>(most=most/\q0=q2/\l=l/\(↑l.length:Int)=(↑q1:Int)/\q0=(↑s0:Int))/\(s0<=q1/\aw Snap.id most q0 (List.take s0 l)=true/\q0<=q2/\q2<=(1048576:Int))/\∀ (s:Nat),(fun (q3:Int)=>s<=q1/\aw Snap.id most q0 (List.take s l)=true/\q0<=q3/\q3<=(1048576:Int)->((↑s:Int)<(↑q1:Int)->q0<=(↑s:Int)/\(↑s:Int)<(↑l.length:Int)/\∀ (x:Snap),(fun (q4:Int)=>l[s]? = some x->I64 x.id->I64 x.set->x.chunks.length*(8:Nat)<=(140737488355328:Nat)->x.tag.b.length<=(140737488355328:Nat)->I64 x.id->I64 q4/\(aW x.id q4 most=false->false=r0)/\(aW x.id q4 most=true->I64 x.id->I64 ((↑s:Int)+(1:Int))/\∃ (s':Nat),(fun (q5:Int)=>(most=most/\x.id=q5/\l=l/\(↑q1:Int)=(↑q1:Int)/\(↑s:Int)+(1:Int)=(↑s':Int))/\(s' <= q1/\aw Snap.id most q0 (List.take s' l)=true/\q0<=q5/\q5<=(1048576:Int))/\q1 - s' < q1 - s) (aV Snap.id q0 (List.take s' l)))) (q3+(1:Int)))/\((↑q1:Int)<=(↑s:Int)->true=r0)) (aV Snap.id q0 (List.take s l))) (aV Snap.id q0 (List.take s0 l))) (0:Int)) l.length):=by kernel_rfl
theorem oz (l:List Snap) (most:Int) (h0:most<=1048576):Sat Tryz.prog (av aI) 132 [.c (.fz (.nm .snap) (l)),.c (.int (most)),.c (.fn 90 [] [])] [] ⟨[most<=1048576],[.c (.bool (.atom ((aw Snap.id most 0 l))))],none,false⟩:=by
 refine aS fk (ki l most) Tryz.func132 (by decide) (by kernel_rfl) ?_
 rw [nL]
 (repeat' (first | with_reducible refine And.intro ?_ ?_ | with_reducible refine and_imp.2 ?_ | intro))
 all_goals try (first | (first | with_reducible rfl | with_reducible assumption | omega | (refine ak ?_ ?_ <;> omega)) | exact (il (key:=Snap.id) (by with_reducible assumption) (by with_reducible assumption) (by with_reducible assumption)) | exact (iG (key:=Snap.id) (by with_reducible assumption) (by with_reducible assumption)) | exact (hY (key:=Snap.id) (by with_reducible assumption) (by omega)) | exact (bF (key:=Snap.id) (by with_reducible assumption)) | exact (iC (key:=Snap.id) (by with_reducible assumption) (by with_reducible assumption) (by with_reducible assumption)) | exact (iz (key:=Snap.id) (by with_reducible assumption) (by with_reducible assumption) (by with_reducible assumption)) | exact rfl | exact Int.le_refl _ | exact (show (0:Int)<=1048576 by omega))
 all_goals try (refine ⟨0,?_⟩; (repeat' (first | with_reducible refine And.intro ?_ ?_ | with_reducible refine and_imp.2 ?_ | intro)))
 all_goals try (first | (first | with_reducible rfl | with_reducible assumption | omega | (refine ak ?_ ?_ <;> omega)) | exact (il (key:=Snap.id) (by with_reducible assumption) (by with_reducible assumption) (by with_reducible assumption)) | exact (iG (key:=Snap.id) (by with_reducible assumption) (by with_reducible assumption)) | exact (hY (key:=Snap.id) (by with_reducible assumption) (by omega)) | exact (bF (key:=Snap.id) (by with_reducible assumption)) | exact (iC (key:=Snap.id) (by with_reducible assumption) (by with_reducible assumption) (by with_reducible assumption)) | exact (iz (key:=Snap.id) (by with_reducible assumption) (by with_reducible assumption) (by with_reducible assumption)) | exact rfl | exact Int.le_refl _ | exact (show (0:Int)<=1048576 by omega))
 all_goals try (refine ⟨‹Nat› + 1,?_⟩; (repeat' (first | with_reducible refine And.intro ?_ ?_ | with_reducible refine and_imp.2 ?_ | intro)))
 all_goals (first | (first | with_reducible rfl | with_reducible assumption | omega | (refine ak ?_ ?_ <;> omega)) | exact (il (key:=Snap.id) (by with_reducible assumption) (by with_reducible assumption) (by with_reducible assumption)) | exact (iG (key:=Snap.id) (by with_reducible assumption) (by with_reducible assumption)) | exact (hY (key:=Snap.id) (by with_reducible assumption) (by omega)) | exact (bF (key:=Snap.id) (by with_reducible assumption)) | exact (iC (key:=Snap.id) (by with_reducible assumption) (by with_reducible assumption) (by with_reducible assumption)) | exact (iz (key:=Snap.id) (by with_reducible assumption) (by with_reducible assumption) (by with_reducible assumption)) | exact rfl | exact Int.le_refl _ | exact (show (0:Int)<=1048576 by omega))
theorem Ec (x:Sess) (r0:Bool):cN aI qc [] Tryz.f113 [.agg (cellsOf (.nm .sess) x)] [] [.c (.bool (.atom (r0)))]=(I64 x.client->I64 x.seq->I64 x.last.code->I64 x.last.n->(aW x.seq (0:Int) (1048576:Int) && aW x.last.code (0:Int) (99:Int) && aW x.last.n (0:Int) (1048576:Int))=r0):=by kernel_rfl
theorem DD (x:Sess):Sat Tryz.prog (av aI) 113 [.agg (cellsOf (.nm .sess) x)] [] ⟨[],[.c (.bool (.atom ((aM x))))],none,false⟩:=by
 refine aS fk [] Tryz.func113 (by decide) (by kernel_rfl) ?_
 rw [Ec]
 grind [aM,aW]
theorem Ej (x:Opn) (r0:Bool):cN aI qc [] Tryz.f117 [.agg (cellsOf (.nm .opn) x)] [] [.c (.bool (.atom (r0)))]=(I64 x.set->I64 x.client->aW x.client (1:Int) (8:Int)=r0):=by kernel_rfl
theorem CE (x:Opn):Sat Tryz.prog (av aI) 117 [.agg (cellsOf (.nm .opn) x)] [] ⟨[],[.c (.bool (.atom ((aN x))))],none,false⟩:=by
 refine aS fk [] Tryz.func117 (by decide) (by kernel_rfl) ?_
 rw [Ej]
 grind [aN,aW]
def oO:cR:=(bO 117 (bL (ai (kT (.nm .opn)) aO) aP fun (x,_) (_)=>⟨[],[.c (.bool (.atom ((aN x))))],none,false⟩) (bO 113 (bL (ai (kT (.nm .sess)) aO) aP fun (x,_) (_)=>⟨[],[.c (.bool (.atom ((aM x))))],none,false⟩) (bO 132 (bL (ai (kC (cL (.nm .snap))) (ai (kC cI) (ai (kC (mJ 90 [] [])) aO))) aP fun (l,most,_,_) (_)=>⟨[most<=1048576],[.c (.bool (.atom ((aw Snap.id most 0 l))))],none,false⟩) (bO 114 (bL (ai (kC (cL (.nm .opn))) (ai (kC cI) (ai (kC (mJ 115 [] [])) aO))) aP fun (l,most,_,_) (_)=>⟨[most<=1048576],[.c (.bool (.atom ((aw Opn.set most 0 l))))],none,false⟩) (bO 111 (bL (ai (kC (cL (.nm .sess))) (ai (kC cI) (ai (kC (mJ 86 [] [])) aO))) aP fun (l,most,_,_) (_)=>⟨[most<=1048576],[.c (.bool (.atom ((aw Sess.client most 0 l))))],none,false⟩) (bO 146 (bL (ai (kC cU) aO) aP fun (n,_) (_)=>⟨[],[.c (.int (((aX n.n:Int))))],none,false⟩) qc))))))
theorem er:bf Tryz.prog (av aI) oO:=(aA (az (ab bD al) ao fun (x,_) (_) _=>CE x ) (aA (az (ab bD al) ao fun (x,_) (_) _=>DD x ) (aA (az (ab (aq bS) (ab (aq au) (ab (aq cj) al))) ao fun (l,most,_,_) (_) hp=>oz l most (eP hp)) (aA (az (ab (aq bS) (ab (aq au) (ab (aq cj) al))) ao fun (l,most,_,_) (_) hp=>oe l most (eP hp)) (aA (az (ab (aq bS) (ab (aq au) (ab (aq cj) al))) ao fun (l,most,_,_) (_) hp=>oA l most (eP hp)) (aA (az (ab (aq CB) al) ao fun (n,_) (_) _=>CY n ) fk))))))
end Go.Proofs.YtdggohppeeaipaaGreat
namespace Go.Proofs.YtdggohppeeaipaaGreat
open Go.RowKit
theorem sJ {n k:Nat} (h:(k:Int)<aX n):(di n k).set k (UInt8.ofNat (n / 128 ^ k) ||| UInt8.ofNat 128)=di n (k+1):=rK (by omega)
theorem pe {n k:Nat} (h1:k<=aX n) (h2:(aX n:Int)<=(k:Int)):(di n k).set ((aX n:Int) - 1).toNat ((di n k).getD ((aX n:Int) - 1).toNat (dflt Sh.u8) &&& UInt8.ofNat 127)=kX n:=by
 have e:k=aX n:=by omega
 have e2:((aX n:Int) - 1).toNat=aX n - 1:=by omega
 have hl:=eL (n:=n) (Nat.le_refl _)
 have hp:=gr n
 subst e
 have hlt:aX n - 1<(di n (aX n)).length:=by omega
 rw [e2,List.getD_eq_getElem?_getD,List.getElem?_eq_getElem hlt,Option.getD_some,sV (List.getElem?_eq_getElem hlt)]
 rfl
def Gr (n:U64):List (Nat × LI):=[(4,{ σ:=Nat,F:=fun k=>([(0,one (.u64 (n.n / 128 ^ k))),(3,one (.int (aX n.n))),(4,one (.own 0)),(10,one (.int (aX n.n))),(11,one (.int k))],[.row 5 .u8 ((di n.n k))]),J:=fun k=>k<=aX n.n,μ:=fun k=>aX n.n - k })]
def qG (l:List Sess):List (Nat × LI):=[(2,{ σ:=Nat,F:=fun k=>([(1,one (.fn 113 [] [])),(7,one (.fz (.nm .sess) (l))),(8,one (.int (l).length)),(9,one (.int k))],[]),J:=fun k=>k<=l.length/\(l.take k).all (aM)=true,μ:=fun k=>(l).length - k })]
def pD (l:List Opn):List (Nat × LI):=[(2,{ σ:=Nat,F:=fun k=>([(1,one (.fn 117 [] [])),(7,one (.fz (.nm .opn) (l))),(8,one (.int (l).length)),(9,one (.int k))],[]),J:=fun k=>k<=l.length/\(l.take k).all (aN)=true,μ:=fun k=>(l).length - k })]
theorem FM (n:U64) (r0:List UInt8):sZ aI oO (Gr n) Tryz.f143 [.c (.u64 (n).n)] [] [.c (.own 0)] [.row 5 .u8 (r0)]=((fun (q2:Nat)=>(fun (q1:Int)=>(fun (q0:Int)=>n.n<(18446744073709551616:Nat)->I64 q0->(0:Int)<=q0/\q0*(↑(1:Nat):Int)<=(140737488355328:Int)/\q0=q0/\∃ (s0:Nat),(fun (q3:Int)=>(n.n=n.n / (128:Nat) ^ s0/\q0=q0/\q0=q0/\(0:Int)=(↑s0:Int)/\List.replicate q2 (dflt Sh.u8)=di n.n s0)/\s0<=q2/\∀ (s:Nat),(fun (q4:List UInt8)=>s<=q2->((↑s:Int)<q0->(0:Int)<=(↑s:Int)/\(↑s:Int)<(↑q4.length:Int)/\(7:Nat)<(64:Nat)/\I64 ((↑s:Int)+q1)/\∃ (s':Nat),(n.n / (128:Nat) ^ s / (2:Nat) ^ (7:Nat)=n.n / (128:Nat) ^ s' /\ q0=q0/\q0=q0/\(↑s:Int)+q1=(↑s':Int)/\q4.set s (UInt8.ofNat (n.n / (128:Nat) ^ s) ||| UInt8.ofNat (128:Nat))=di n.n s')/\s' <= q2/\q2 - s' < q2 - s)/\(q0<=(↑s:Int)->I64 q3/\(0:Int)<=q3/\q3<(↑q4.length:Int)/\(0:Int)<=q3/\q3<(↑q4.length:Int)/\q4.set q3.toNat (q4.getD q3.toNat (dflt Sh.u8) &&& UInt8.ofNat (127:Nat))=r0)) (di n.n s)) (q0 - q1)) (↑q2:Int)) (1:Int)) (aX n.n)):=by kernel_rfl
theorem FP (n:U64):Sat Tryz.prog (av aI) 143 [.c (.u64 (n).n)] [] ⟨[],[.c (.own 0)],some ([.row 5 .u8 ((kX n.n))]),true⟩:=by
 refine ep er (Gr n) Tryz.func143 (by decide) (by kernel_rfl) ?_
 rw [FM]
 intro hn
 have h1:=gr n.n
 have h10:=lg hn
 (repeat' (first | with_reducible refine And.intro ?_ ?_ | with_reducible refine and_imp.2 ?_ | intro))
 all_goals try (first | (first | with_reducible rfl | with_reducible assumption | omega | (refine ak ?_ ?_ <;> omega)) | exact (gN n.n) | exact (sJ (by omega)) | exact (pe (by omega) (by omega)) | exact div_pow | exact (by rw [Nat.pow_zero,Nat.div_one]) | exact (by rw [eL (by omega)]; omega))
 all_goals try (refine ⟨0,?_⟩; (repeat' (first | with_reducible refine And.intro ?_ ?_ | with_reducible refine and_imp.2 ?_ | intro)))
 all_goals try (first | (first | with_reducible rfl | with_reducible assumption | omega | (refine ak ?_ ?_ <;> omega)) | exact (gN n.n) | exact (sJ (by omega)) | exact (pe (by omega) (by omega)) | exact div_pow | exact (by rw [Nat.pow_zero,Nat.div_one]) | exact (by rw [eL (by omega)]; omega))
 all_goals try (refine ⟨‹Nat› + 1,?_⟩; (repeat' (first | with_reducible refine And.intro ?_ ?_ | with_reducible refine and_imp.2 ?_ | intro)))
 all_goals (first | (first | with_reducible rfl | with_reducible assumption | omega | (refine ak ?_ ?_ <;> omega)) | exact (gN n.n) | exact (sJ (by omega)) | exact (pe (by omega) (by omega)) | exact div_pow | exact (by rw [Nat.pow_zero,Nat.div_one]) | exact (by rw [eL (by omega)]; omega))
theorem uK (l:List Sess) (r0:Bool):cN aI oO (qG l) Tryz.f112 [.c (.fz (.nm .sess) (l)),.c (.fn 113 [] [])] [] [.c (.bool (.atom (r0)))]=((fun (q0:Nat)=>l.length*(32:Nat)<=(140737488355328:Nat)->∃ (s0:Nat),(l=l/\(↑l.length:Int)=(↑q0:Int)/\(0:Int)=(↑s0:Int))/\(s0<=q0/\(List.take s0 l).all aM=true)/\∀ (s:Nat),s<=q0/\(List.take s l).all aM=true->((↑s:Int)<(↑q0:Int)->(0:Int)<=(↑s:Int)/\(↑s:Int)<(↑l.length:Int)/\∀ (x:Sess),l[s]? = some x->I64 x.client->I64 x.seq->I64 x.last.code->I64 x.last.n->(aM x=false->false=r0)/\(aM x=true->I64 ((↑s:Int)+(1:Int))/\∃ (s':Nat),(l=l/\(↑q0:Int)=(↑q0:Int)/\(↑s:Int)+(1:Int)=(↑s':Int))/\(s' <= q0/\(List.take s' l).all aM=true)/\q0 - s' < q0 - s))/\((↑q0:Int)<=(↑s:Int)->true=r0)) l.length):=by kernel_rfl
theorem uG (l:List Sess):Sat Tryz.prog (av aI) 112 [.c (.fz (.nm .sess) (l)),.c (.fn 113 [] [])] [] ⟨[],[.c (.bool (.atom ((l.all (aM)))))],none,false⟩:=by
 refine aS er (qG l) Tryz.func112 (by decide) (by kernel_rfl) ?_
 rw [uK]
 (repeat' (first | with_reducible refine And.intro ?_ ?_ | with_reducible refine and_imp.2 ?_ | intro))
 all_goals try (first | (first | with_reducible rfl | with_reducible assumption | omega | (refine ak ?_ ?_ <;> omega)) | exact (dp (p:=aM) (by with_reducible assumption) (by with_reducible assumption) (by with_reducible assumption)) | exact (iI (p:=aM) (by with_reducible assumption) (by with_reducible assumption)) | exact (iK (p:=aM) (by with_reducible assumption) (by omega)) | exact rfl)
 all_goals try (refine ⟨0,?_⟩; (repeat' (first | with_reducible refine And.intro ?_ ?_ | with_reducible refine and_imp.2 ?_ | intro)))
 all_goals try (first | (first | with_reducible rfl | with_reducible assumption | omega | (refine ak ?_ ?_ <;> omega)) | exact (dp (p:=aM) (by with_reducible assumption) (by with_reducible assumption) (by with_reducible assumption)) | exact (iI (p:=aM) (by with_reducible assumption) (by with_reducible assumption)) | exact (iK (p:=aM) (by with_reducible assumption) (by omega)) | exact rfl)
 all_goals try (refine ⟨‹Nat› + 1,?_⟩; (repeat' (first | with_reducible refine And.intro ?_ ?_ | with_reducible refine and_imp.2 ?_ | intro)))
 all_goals (first | (first | with_reducible rfl | with_reducible assumption | omega | (refine ak ?_ ?_ <;> omega)) | exact (dp (p:=aM) (by with_reducible assumption) (by with_reducible assumption) (by with_reducible assumption)) | exact (iI (p:=aM) (by with_reducible assumption) (by with_reducible assumption)) | exact (iK (p:=aM) (by with_reducible assumption) (by omega)) | exact rfl)
theorem vP (l:List Opn) (r0:Bool):cN aI oO (pD l) Tryz.f116 [.c (.fz (.nm .opn) (l)),.c (.fn 117 [] [])] [] [.c (.bool (.atom (r0)))]=((fun (q0:Nat)=>l.length*(16:Nat)<=(140737488355328:Nat)->∃ (s0:Nat),(l=l/\(↑l.length:Int)=(↑q0:Int)/\(0:Int)=(↑s0:Int))/\(s0<=q0/\(List.take s0 l).all aN=true)/\∀ (s:Nat),s<=q0/\(List.take s l).all aN=true->((↑s:Int)<(↑q0:Int)->(0:Int)<=(↑s:Int)/\(↑s:Int)<(↑l.length:Int)/\∀ (x:Opn),l[s]? = some x->I64 x.set->I64 x.client->(aN x=false->false=r0)/\(aN x=true->I64 ((↑s:Int)+(1:Int))/\∃ (s':Nat),(l=l/\(↑q0:Int)=(↑q0:Int)/\(↑s:Int)+(1:Int)=(↑s':Int))/\(s' <= q0/\(List.take s' l).all aN=true)/\q0 - s' < q0 - s))/\((↑q0:Int)<=(↑s:Int)->true=r0)) l.length):=by kernel_rfl
theorem vI (l:List Opn):Sat Tryz.prog (av aI) 116 [.c (.fz (.nm .opn) (l)),.c (.fn 117 [] [])] [] ⟨[],[.c (.bool (.atom ((l.all (aN)))))],none,false⟩:=by
 refine aS er (pD l) Tryz.func116 (by decide) (by kernel_rfl) ?_
 rw [vP]
 (repeat' (first | with_reducible refine And.intro ?_ ?_ | with_reducible refine and_imp.2 ?_ | intro))
 all_goals try (first | (first | with_reducible rfl | with_reducible assumption | omega | (refine ak ?_ ?_ <;> omega)) | exact (dp (p:=aN) (by with_reducible assumption) (by with_reducible assumption) (by with_reducible assumption)) | exact (iI (p:=aN) (by with_reducible assumption) (by with_reducible assumption)) | exact (iK (p:=aN) (by with_reducible assumption) (by omega)) | exact rfl)
 all_goals try (refine ⟨0,?_⟩; (repeat' (first | with_reducible refine And.intro ?_ ?_ | with_reducible refine and_imp.2 ?_ | intro)))
 all_goals try (first | (first | with_reducible rfl | with_reducible assumption | omega | (refine ak ?_ ?_ <;> omega)) | exact (dp (p:=aN) (by with_reducible assumption) (by with_reducible assumption) (by with_reducible assumption)) | exact (iI (p:=aN) (by with_reducible assumption) (by with_reducible assumption)) | exact (iK (p:=aN) (by with_reducible assumption) (by omega)) | exact rfl)
 all_goals try (refine ⟨‹Nat› + 1,?_⟩; (repeat' (first | with_reducible refine And.intro ?_ ?_ | with_reducible refine and_imp.2 ?_ | intro)))
 all_goals (first | (first | with_reducible rfl | with_reducible assumption | omega | (refine ak ?_ ?_ <;> omega)) | exact (dp (p:=aN) (by with_reducible assumption) (by with_reducible assumption) (by with_reducible assumption)) | exact (iI (p:=aN) (by with_reducible assumption) (by with_reducible assumption)) | exact (iK (p:=aN) (by with_reducible assumption) (by omega)) | exact rfl)
theorem nR (l:List Sess) (r0:List Sess):sZ aI oO [] Tryz.f80 [.c (.fz (.nm .sess) (l))] [] [.c (.own 0)] [.row 44 (.nm .sess) (r0)]=((fun (q0:Prop)=>q0->∀ (b:Bool),(b=true->l=[])->(b=true->r0=[])/\(b=false->q0/\l=r0)) (l.length*(32:Nat)<=(140737488355328:Nat))):=by kernel_rfl
theorem nU (l:List Sess):Sat Tryz.prog (av aI) 80 [.c (.fz (.nm .sess) (l))] [] ⟨[],[.c (.own 0)],some ([.row 44 (.nm .sess) ((l))]),true⟩:=by
 refine ep er [] Tryz.func80 (by decide) (by kernel_rfl) ?_
 rw [nR]
 exact fun h b hb=>⟨hb,fun _=>⟨h,rfl⟩⟩
theorem qW (l:List Opn) (r0:List Opn):sZ aI oO [] Tryz.f81 [.c (.fz (.nm .opn) (l))] [] [.c (.own 0)] [.row 77 (.nm .opn) (r0)]=((fun (q0:Prop)=>q0->∀ (b:Bool),(b=true->l=[])->(b=true->r0=[])/\(b=false->q0/\l=r0)) (l.length*(16:Nat)<=(140737488355328:Nat))):=by kernel_rfl
theorem rD (l:List Opn):Sat Tryz.prog (av aI) 81 [.c (.fz (.nm .opn) (l))] [] ⟨[],[.c (.own 0)],some ([.row 77 (.nm .opn) ((l))]),true⟩:=by
 refine ep er [] Tryz.func81 (by decide) (by kernel_rfl) ?_
 rw [qW]
 exact fun h b hb=>⟨hb,fun _=>⟨h,rfl⟩⟩
theorem ot (l:List Snap) (r0:List Snap):sZ aI oO [] Tryz.f82 [.c (.fz (.nm .snap) (l))] [] [.c (.own 0)] [.row 59 (.nm .snap) (r0)]=((fun (q0:Prop)=>q0->∀ (b:Bool),(b=true->l=[])->(b=true->r0=[])/\(b=false->q0/\l=r0)) (l.length*(64:Nat)<=(140737488355328:Nat))):=by kernel_rfl
theorem nP (l:List Snap):Sat Tryz.prog (av aI) 82 [.c (.fz (.nm .snap) (l))] [] ⟨[],[.c (.own 0)],some ([.row 59 (.nm .snap) ((l))]),true⟩:=by
 refine ep er [] Tryz.func82 (by decide) (by kernel_rfl) ?_
 rw [ot]
 exact fun h b hb=>⟨hb,fun _=>⟨h,rfl⟩⟩
theorem pQ (l:List Int) (r0:List Int):cN aI oO [] Tryz.f83 [.c (.fz .int (l))] [] [.c (.fz .int (r0))]=((fun (q0:Prop)=>q0->∀ (b:Bool),(b=true->l=[])->(b=true->r0=[])/\(b=false->q0/\l=r0)) (l.length*(8:Nat)<=(140737488355328:Nat))):=by kernel_rfl
theorem rf (l:List Int):Sat Tryz.prog (av aI) 83 [.c (.fz .int (l))] [] ⟨[],[.c (.fz .int ((l)))],none,false⟩:=by
 refine aS er [] Tryz.func83 (by decide) (by kernel_rfl) ?_
 rw [pQ]
 intros; repeat' (first | refine And.intro ?_ ?_ | intro)
 all_goals first | rfl | assumption | simp_all
def pP:cR:=(bO 83 (bL (ai (kC (cL .int)) aO) aP fun (l,_) (_)=>⟨[],[.c (.fz .int ((l)))],none,false⟩) (bO 82 (bL (ai (kC (cL (.nm .snap))) aO) aP fun (l,_) (_)=>⟨[],[.c (.own 0)],some ([.row 59 (.nm .snap) ((l))]),true⟩) (bO 81 (bL (ai (kC (cL (.nm .opn))) aO) aP fun (l,_) (_)=>⟨[],[.c (.own 0)],some ([.row 77 (.nm .opn) ((l))]),true⟩) (bO 80 (bL (ai (kC (cL (.nm .sess))) aO) aP fun (l,_) (_)=>⟨[],[.c (.own 0)],some ([.row 44 (.nm .sess) ((l))]),true⟩) (bO 116 (bL (ai (kC (cL (.nm .opn))) (ai (kC (mJ 117 [] [])) aO)) aP fun (l,_,_) (_)=>⟨[],[.c (.bool (.atom ((l.all (aN)))))],none,false⟩) (bO 112 (bL (ai (kC (cL (.nm .sess))) (ai (kC (mJ 113 [] [])) aO)) aP fun (l,_,_) (_)=>⟨[],[.c (.bool (.atom ((l.all (aM)))))],none,false⟩) (bO 143 (bL (ai (kC cU) aO) aP fun (n,_) (_)=>⟨[],[.c (.own 0)],some ([.row 5 .u8 ((kX n.n))]),true⟩) oO)))))))
theorem fa:bf Tryz.prog (av aI) pP:=(aA (az (ab (aq bS) al) ao fun (l,_) (_) _=>rf l ) (aA (az (ab (aq bS) al) ao fun (l,_) (_) _=>nP l ) (aA (az (ab (aq bS) al) ao fun (l,_) (_) _=>rD l ) (aA (az (ab (aq bS) al) ao fun (l,_) (_) _=>nU l ) (aA (az (ab (aq bS) (ab (aq cj) al)) ao fun (l,_,_) (_) _=>vI l ) (aA (az (ab (aq bS) (ab (aq cj) al)) ao fun (l,_,_) (_) _=>uG l ) (aA (az (ab (aq CB) al) ao fun (n,_) (_) _=>FP n ) er)))))))
end Go.Proofs.YtdggohppeeaipaaGreat
namespace Go.Proofs.YtdggohppeeaipaaGreat
open Go.RowKit
theorem rN {x:Int} {l:List Int} {k:Nat} (h:eQ x (l.take k) = -1) (hk:l.length<=k):-1=eQ x l:=by rw [List.take_of_length_le hk] at h; exact h.symm
theorem oM {x y:Int} {l:List Int} {k:Nat} (h:eQ x (l.take k) = -1) (hy:l[k]? = some y) (e:x=y):(k:Int)=eQ x l:=by
 refine wH (fun j z hj hz hc=>?_) hy e
 have hm:z ∈ l.take k:=by
  obtain ⟨h1,h2⟩:=List.getElem?_eq_some_iff.1 hz
  rw [List.mem_take_iff_getElem]; exact ⟨j,by omega,h2⟩
 have:decide (0<=eQ x (l.take k))=true:=by rw [uE,List.contains_iff_mem,hc]; exact hm
 rw [decide_eq_true_eq] at this; omega
theorem sN {x y:Int} {l:List Int} {k:Nat} (h:eQ x (l.take k) = -1) (hy:l[k]? = some y) (e:¬ x=y):eQ x (l.take (k+1)) = -1:=by
 have h0:(l.take k).contains x=false:=by
  have:=uE x (l.take k)
  rw [<- this,h]; decide
 have h1:(l.take (k+1)).contains x=false:=by
  rw [aD hy,<- Bool.not_eq_true,List.contains_iff_mem] at *
  intro hm
  rcases List.mem_append.1 hm with hm | hm
  ·exact h0 hm
  ·exact e (List.mem_singleton.1 hm)
 rw [<- uE,decide_eq_false_iff_not] at h1
 unfold eQ at h1 ⊢
 split
 ·rename_i i hi; rw [hi] at h1; dsimp only at h1; omega
 ·rfl
theorem CL {l:List Int} {k:Nat} {x:Int} (hr:ck l=true) (hx:l[k]? = some x):0<=x:=Int.le_of_lt (rW hr x (List.mem_of_getElem? hx)).1
theorem sd {l:List Int} {k:Nat} {x:Int} (hr:ck l=true) (hx:l[k]? = some x):((ec (l.take k)).length+(kX x.toNat).length)*1<=140737488355328:=by
 have h1:=xD (l:=l.take k) (fun x hx=>(rW hr x (List.mem_of_mem_take hx)).2)
 have h2:=ur hr
 have h3:=rW hr x (List.mem_of_getElem? hx)
 have h4:=mi (n:=x.toNat) (by omega)
 rw [List.length_take] at h1; omega
def zN (l:List Int) (x:Int):List (Nat × LI):=[(2,{ σ:=Nat,F:=fun k=>([(0,one (.fz .int (l))),(1,one (.int (x))),(7,one (.int (l).length)),(8,one (.int k))],[]),J:=fun k=>k<=l.length/\eQ x (l.take k) = -1,μ:=fun k=>(l).length - k })]
def tG (l:List Int):List (Nat × LI):=[(5,{ σ:=Nat,F:=fun k=>([(4,one (.own 0)),(10,one (.fz .int (l))),(11,one (.int (l).length)),(12,one (.int k))],[.row 5 .u8 ((ec (l.take k)))]),J:=fun k=>k<=l.length/\ck l=true,μ:=fun k=>(l).length - k })]
theorem BM (l:List Int) (x:Int) (r0:Int):cN aI pP (zN l x) Tryz.f144 [.c (.fz .int (l)),.c (.int (x))] [] [.c (.int (r0))]=((fun (q1:Int)=>(fun (q0:Nat)=>l.length*(8:Nat)<=(140737488355328:Nat)->I64 x->∃ (s0:Nat),(l=l/\x=x/\(↑l.length:Int)=(↑q0:Int)/\(0:Int)=(↑s0:Int))/\(s0<=q0/\eQ x (List.take s0 l) = -q1)/\∀ (s:Nat),s<=q0/\eQ x (List.take s l) = -q1->((↑s:Int)<(↑q0:Int)->(0:Int)<=(↑s:Int)/\(↑s:Int)<(↑l.length:Int)/\∀ (x_1:Int),l[s]? = some x_1->I64 x_1->(x=x_1->(↑s:Int)=r0)/\(¬x=x_1->I64 ((↑s:Int)+q1)/\∃ (s':Nat),(l=l/\x=x/\(↑q0:Int)=(↑q0:Int)/\(↑s:Int)+q1=(↑s':Int))/\(s' <= q0/\eQ x (List.take s' l) = -q1)/\q0 - s' < q0 - s))/\((↑q0:Int)<=(↑s:Int) -> -q1=r0)) l.length) (1:Int)):=by kernel_rfl
theorem BQ (l:List Int) (x:Int):Sat Tryz.prog (av aI) 144 [.c (.fz .int (l)),.c (.int (x))] [] ⟨[],[.c (.int ((eQ x l)))],none,false⟩:=by
 refine aS fa (zN l x) Tryz.func144 (by decide) (by kernel_rfl) ?_
 rw [BM]
 (repeat' (first | with_reducible refine And.intro ?_ ?_ | with_reducible refine and_imp.2 ?_ | intro))
 all_goals try (first | (first | with_reducible rfl | with_reducible assumption | omega | (refine ak ?_ ?_ <;> omega)) | exact rfl | exact (rN (by with_reducible assumption) (by omega)) | exact (oM (by with_reducible assumption) (by with_reducible assumption) (by with_reducible assumption)) | exact (sN (by with_reducible assumption) (by with_reducible assumption) (by with_reducible assumption)))
 all_goals try (refine ⟨0,?_⟩; (repeat' (first | with_reducible refine And.intro ?_ ?_ | with_reducible refine and_imp.2 ?_ | intro)))
 all_goals try (first | (first | with_reducible rfl | with_reducible assumption | omega | (refine ak ?_ ?_ <;> omega)) | exact rfl | exact (rN (by with_reducible assumption) (by omega)) | exact (oM (by with_reducible assumption) (by with_reducible assumption) (by with_reducible assumption)) | exact (sN (by with_reducible assumption) (by with_reducible assumption) (by with_reducible assumption)))
 all_goals try (refine ⟨‹Nat› + 1,?_⟩; (repeat' (first | with_reducible refine And.intro ?_ ?_ | with_reducible refine and_imp.2 ?_ | intro)))
 all_goals (first | (first | with_reducible rfl | with_reducible assumption | omega | (refine ak ?_ ?_ <;> omega)) | exact rfl | exact (rN (by with_reducible assumption) (by omega)) | exact (oM (by with_reducible assumption) (by with_reducible assumption) (by with_reducible assumption)) | exact (sN (by with_reducible assumption) (by with_reducible assumption) (by with_reducible assumption)))
theorem AA (n:Int) (most:Int) (named:Bool) (r0:Bool):cN aI pP [] Tryz.f138 [.c (.int (n)),.c (.int (most)),.c (.bool (.atom (named)))] [] [.c (.bool (.atom (r0)))]=(I64 n->I64 most->(named=true->(decide ((1:Int)<=n) && decide (n<=most))=r0)/\(named=false->decide (n=(0:Int))=r0)):=by kernel_rfl
theorem Bt (n:Int) (most:Int) (named:Bool):Sat Tryz.prog (av aI) 138 [.c (.int (n)),.c (.int (most)),.c (.bool (.atom (named)))] [] ⟨[],[.c (.bool (.atom ((kv n most named))))],none,false⟩:=by
 refine aS fa [] Tryz.func138 (by decide) (by kernel_rfl) ?_
 rw [AA]
 grind [kv]
theorem zj (l:List Int) (r0:List UInt8) (r1:Int):cN aI pP (tG l) Tryz.f135 [.c (.fz .int (l))] [] [.c (.fz .u8 (r0)),.c (.int (r1))]=((fun (q1:Prop)=>(fun (q0:Nat)=>l.length*(8:Nat)<=(140737488355328:Nat)->(ck l=false->r0=[]/\(1:Int)=r1)/\(q1->∃ (s0:Nat),(l=l/\(↑l.length:Int)=(↑q0:Int)/\(0:Int)=(↑s0:Int)/\ec (List.take s0 l)=[])/\(s0<=q0/\q1)/\∀ (s:Nat),s<=q0/\q1->((↑s:Int)<(↑q0:Int)->(0:Int)<=(↑s:Int)/\(↑s:Int)<(↑l.length:Int)/\∀ (x:Int),l[s]? = some x->I64 x->(0:Int)<=x/\((ec (List.take s l)).length+(kX x.toNat).length)*(1:Nat)<=(140737488355328:Nat)/\I64 ((↑s:Int)+(1:Int))/\∃ (s':Nat),(l=l/\(↑q0:Int)=(↑q0:Int)/\(↑s:Int)+(1:Int)=(↑s':Int)/\ec (List.take s l)++kX x.toNat=ec (List.take s' l))/\(s' <= q0/\q1)/\q0 - s' < q0 - s)/\((↑q0:Int)<=(↑s:Int)->ec (List.take s l)=r0/\(0:Int)=r1))) l.length) (ck l=true)):=by kernel_rfl
theorem wZ (l:List Int):Sat Tryz.prog (av aI) 135 [.c (.fz .int (l))] [] ⟨[],[.c (.fz .u8 ((eZ l))),.c (.int ((dk l)))],none,false⟩:=by
 refine aS fa (tG l) Tryz.func135 (by decide) (by kernel_rfl) ?_
 rw [zj]
 (repeat' (first | with_reducible refine And.intro ?_ ?_ | with_reducible refine and_imp.2 ?_ | intro))
 all_goals try (first | (first | with_reducible rfl | with_reducible assumption | omega | (refine ak ?_ ?_ <;> omega)) | exact rfl | exact (js (by with_reducible assumption)).symm | exact (eY (by with_reducible assumption)) | exact (fZ (by with_reducible assumption)) | exact (kW (by with_reducible assumption) (by omega)) | exact (iY (by with_reducible assumption)) | exact (CL (by with_reducible assumption) (by with_reducible assumption)) | exact (sd (by with_reducible assumption) (by with_reducible assumption)))
 all_goals try (refine ⟨0,?_⟩; (repeat' (first | with_reducible refine And.intro ?_ ?_ | with_reducible refine and_imp.2 ?_ | intro)))
 all_goals try (first | (first | with_reducible rfl | with_reducible assumption | omega | (refine ak ?_ ?_ <;> omega)) | exact rfl | exact (js (by with_reducible assumption)).symm | exact (eY (by with_reducible assumption)) | exact (fZ (by with_reducible assumption)) | exact (kW (by with_reducible assumption) (by omega)) | exact (iY (by with_reducible assumption)) | exact (CL (by with_reducible assumption) (by with_reducible assumption)) | exact (sd (by with_reducible assumption) (by with_reducible assumption)))
 all_goals try (refine ⟨‹Nat› + 1,?_⟩; (repeat' (first | with_reducible refine And.intro ?_ ?_ | with_reducible refine and_imp.2 ?_ | intro)))
 all_goals (first | (first | with_reducible rfl | with_reducible assumption | omega | (refine ak ?_ ?_ <;> omega)) | exact rfl | exact (js (by with_reducible assumption)).symm | exact (eY (by with_reducible assumption)) | exact (fZ (by with_reducible assumption)) | exact (kW (by with_reducible assumption) (by omega)) | exact (iY (by with_reducible assumption)) | exact (CL (by with_reducible assumption) (by with_reducible assumption)) | exact (sd (by with_reducible assumption) (by with_reducible assumption)))
theorem yz (s:State) (x:Int) (r0:Int):cN aI pP [] Tryz.f35 [.agg (cellsOf (.nm .state) s),.c (.int (x))] [] [.c (.int (r0))]=(I64 s.version->I64 s.next->I64 s.keep->I64 s.quota->s.sess.length*(32:Nat)<=(140737488355328:Nat)->s.opens.length*(16:Nat)<=(140737488355328:Nat)->s.snaps.length*(64:Nat)<=(140737488355328:Nat)->I64 x->I64 (ah Sess.client x s.sess)->ah Sess.client x s.sess=r0):=by kernel_rfl
theorem yD (s:State) (x:Int):Sat Tryz.prog (av aI) 35 [.agg (cellsOf (.nm .state) s),.c (.int (x))] [] ⟨[],[.c (.int ((ah Sess.client x s.sess)))],none,false⟩:=by
 refine aS fa [] Tryz.func35 (by decide) (by kernel_rfl) ?_
 rw [yz]
 grind
theorem xp (s:State) (x:Int) (r0:Int):cN aI pP [] Tryz.f91 [.agg (cellsOf (.nm .state) s),.c (.int (x))] [] [.c (.int (r0))]=(I64 s.version->I64 s.next->I64 s.keep->I64 s.quota->s.sess.length*(32:Nat)<=(140737488355328:Nat)->s.opens.length*(16:Nat)<=(140737488355328:Nat)->s.snaps.length*(64:Nat)<=(140737488355328:Nat)->I64 x->I64 (ah Opn.set x s.opens)->ah Opn.set x s.opens=r0):=by kernel_rfl
theorem xu (s:State) (x:Int):Sat Tryz.prog (av aI) 91 [.agg (cellsOf (.nm .state) s),.c (.int (x))] [] ⟨[],[.c (.int ((ah Opn.set x s.opens)))],none,false⟩:=by
 refine aS fa [] Tryz.func91 (by decide) (by kernel_rfl) ?_
 rw [xp]
 grind
theorem wW (s:State) (x:Int) (r0:Int):cN aI pP [] Tryz.f43 [.agg (cellsOf (.nm .state) s),.c (.int (x))] [] [.c (.int (r0))]=(I64 s.version->I64 s.next->I64 s.keep->I64 s.quota->s.sess.length*(32:Nat)<=(140737488355328:Nat)->s.opens.length*(16:Nat)<=(140737488355328:Nat)->s.snaps.length*(64:Nat)<=(140737488355328:Nat)->I64 x->I64 (ah Snap.id x s.snaps)->ah Snap.id x s.snaps=r0):=by kernel_rfl
theorem xe (s:State) (x:Int):Sat Tryz.prog (av aI) 43 [.agg (cellsOf (.nm .state) s),.c (.int (x))] [] ⟨[],[.c (.int ((ah Snap.id x s.snaps)))],none,false⟩:=by
 refine aS fa [] Tryz.func43 (by decide) (by kernel_rfl) ?_
 rw [wW]
 grind
def z_:cR:=(bO 43 (bL (ai (kT (.nm .state)) (ai (kC cI) aO)) aP fun (s,x,_) (_)=>⟨[],[.c (.int ((ah Snap.id x s.snaps)))],none,false⟩) (bO 91 (bL (ai (kT (.nm .state)) (ai (kC cI) aO)) aP fun (s,x,_) (_)=>⟨[],[.c (.int ((ah Opn.set x s.opens)))],none,false⟩) (bO 35 (bL (ai (kT (.nm .state)) (ai (kC cI) aO)) aP fun (s,x,_) (_)=>⟨[],[.c (.int ((ah Sess.client x s.sess)))],none,false⟩) (bO 135 (bL (ai (kC (cL .int)) aO) aP fun (l,_) (_)=>⟨[],[.c (.fz .u8 ((eZ l))),.c (.int ((dk l)))],none,false⟩) (bO 138 (bL (ai (kC cI) (ai (kC cI) (ai (kC cB) aO))) aP fun (n,most,named,_) (_)=>⟨[],[.c (.bool (.atom ((kv n most named))))],none,false⟩) (bO 144 (bL (ai (kC (cL .int)) (ai (kC cI) aO)) aP fun (l,x,_) (_)=>⟨[],[.c (.int ((eQ x l)))],none,false⟩) pP))))))
theorem oN:bf Tryz.prog (av aI) z_:=(aA (az (ab bD (ab (aq au) al)) ao fun (s,x,_) (_) _=>xe s x ) (aA (az (ab bD (ab (aq au) al)) ao fun (s,x,_) (_) _=>xu s x ) (aA (az (ab bD (ab (aq au) al)) ao fun (s,x,_) (_) _=>yD s x ) (aA (az (ab (aq bS) al) ao fun (l,_) (_) _=>wZ l ) (aA (az (ab (aq au) (ab (aq au) (ab (aq nB) al))) ao fun (n,most,named,_) (_) _=>Bt n most named ) (aA (az (ab (aq bS) (ab (aq au) al)) ao fun (l,x,_) (_) _=>BQ l x ) fa))))))
end Go.Proofs.YtdggohppeeaipaaGreat
namespace Go.Proofs.YtdggohppeeaipaaGreat
open Go.RowKit
theorem sG (l:List Int) (x:Int) (r0:Bool):cN aI z_ [] Tryz.f137 [.c (.fz .int (l)),.c (.int (x))] [] [.c (.bool (.atom (r0)))]=(l.length*(8:Nat)<=(140737488355328:Nat)->I64 x->I64 (eQ x l)->decide ((0:Int)<=eQ x l)=r0):=by kernel_rfl
theorem s_ (l:List Int) (x:Int):Sat Tryz.prog (av aI) 137 [.c (.fz .int (l)),.c (.int (x))] [] ⟨[],[.c (.bool (.atom ((l.contains x))))],none,false⟩:=by
 refine aS oN [] Tryz.func137 (by decide) (by kernel_rfl) ?_
 rw [sG]
 intros; exact uE _ _
theorem wz (x:Snap) (v:Int) (t:Int) (r0:Bool):cN aI z_ [] Tryz.f134 [.agg (cellsOf (.nm .snap) x),.c (.ptr 0 0),.c (.ptr 1 0)] [.box 3 ([.int (v)]),.box 3 ([.int (t)])] [.c (.bool (.atom (r0)))]=(I64 x.id->I64 x.set->x.chunks.length*(8:Nat)<=(140737488355328:Nat)->x.tag.b.length<=(140737488355328:Nat)->(eZ x.chunks).length*(1:Nat)<=(140737488355328:Nat)->I64 (dk x.chunks)->(decide (dk x.chunks=(0:Int)) && aW x.set (1:Int) (8:Int) && (!x.held || decide ((2:Int)<=v)) && decide ((↑x.tag.b.length:Int)<=t))=r0):=by kernel_rfl
theorem yL (x:Snap) (v:Int) (t:Int):Sat Tryz.prog (av aI) 134 [.agg (cellsOf (.nm .snap) x),.c (.ptr 0 0),.c (.ptr 1 0)] [.box 3 ([.int (v)]),.box 3 ([.int (t)])] ⟨[],[.c (.bool (.atom ((bE v t x))))],none,false⟩:=by
 refine aS oN [] Tryz.func134 (by decide) (by kernel_rfl) ?_
 rw [wz]
 intros; rfl
def Bq:cR:=(bO 134 (bL (ai (kT (.nm .snap)) (ai (kC (bN 0 0)) (ai (kC (bN 1 0)) aO))) (ax (bM 3 (aj cI bJ)) (ax (bM 3 (aj cI bJ)) aP)) fun (x,_,_,_) ((v,_),(t,_),_)=>⟨[],[.c (.bool (.atom ((bE v t x))))],none,false⟩) (bO 137 (bL (ai (kC (cL .int)) (ai (kC cI) aO)) aP fun (l,x,_) (_)=>⟨[],[.c (.bool (.atom ((l.contains x))))],none,false⟩) z_))
theorem o_:bf Tryz.prog (av aI) Bq:=(aA (az (ab bD (ab (aq aJ) (ab (aq aJ) al))) (ag (aG (ae au aF)) (ag (aG (ae au aF)) ao)) fun (x,_,_,_) ((v,_),(t,_),_) _=>yL x v t ) (aA (az (ab (aq bS) (ab (aq au) al)) ao fun (l,x,_) (_) _=>s_ l x ) oN))
end Go.Proofs.YtdggohppeeaipaaGreat
namespace Go.Proofs.YtdggohppeeaipaaGreat
open Go.RowKit
def pw (l:List Snap) (v:Int) (t:Int):List (Nat × LI):=[(2,{ σ:=Nat,F:=fun k=>([(1,one (.fn 134 [] [(0,0),(1,0)])),(7,one (.fz (.nm .snap) (l))),(8,one (.int (l).length)),(9,one (.int k))],[.box 3 ([.int ((v))]),.box 3 ([.int ((t))])]),J:=fun k=>k<=l.length/\(l.take k).all ((bE v t))=true,μ:=fun k=>(l).length - k })]
theorem BF (l:List Int) (c:Command) (r0:Bool):cN aI Bq [] Tryz.f136 [.c (.fz .int (l)),.c (.ptr 0 0)] [.box 29 (cellsOf (.nm .command) (c))] [.c (.bool (.atom (r0)))]=(l.length*(8:Nat)<=(140737488355328:Nat)->l.contains c.kind=r0):=by kernel_rfl
theorem zY (l:List Int) (c:Command):Sat Tryz.prog (av aI) 136 [.c (.fz .int (l)),.c (.ptr 0 0)] [.box 29 (cellsOf (.nm .command) (c))] ⟨[],[.c (.bool (.atom ((l.contains c.kind))))],none,false⟩:=by
 refine aS o_ [] Tryz.func136 (by decide) (by kernel_rfl) ?_
 rw [BF]
 grind
theorem uZ (l:List Snap) (v:Int) (t:Int) (r0:Bool):cN aI Bq (pw l v t) Tryz.f133 [.c (.fz (.nm .snap) (l)),.c (.fn 134 [] [(0,0),(1,0)])] [.box 3 ([.int (v)]),.box 3 ([.int (t)])] [.c (.bool (.atom (r0)))]=((fun (q0:Nat)=>l.length*(64:Nat)<=(140737488355328:Nat)->∃ (s0:Nat),(l=l/\(↑l.length:Int)=(↑q0:Int)/\(0:Int)=(↑s0:Int)/\v=v/\t=t)/\(s0<=q0/\(List.take s0 l).all (bE v t)=true)/\∀ (s:Nat),s<=q0/\(List.take s l).all (bE v t)=true->((↑s:Int)<(↑q0:Int)->(0:Int)<=(↑s:Int)/\(↑s:Int)<(↑l.length:Int)/\∀ (x:Snap),l[s]? = some x->I64 x.id->I64 x.set->x.chunks.length*(8:Nat)<=(140737488355328:Nat)->x.tag.b.length<=(140737488355328:Nat)->(bE v t x=false->false=r0)/\(bE v t x=true->I64 ((↑s:Int)+(1:Int))/\∃ (s':Nat),(l=l/\(↑q0:Int)=(↑q0:Int)/\(↑s:Int)+(1:Int)=(↑s':Int)/\v=v/\t=t)/\(s' <= q0/\(List.take s' l).all (bE v t)=true)/\q0 - s' < q0 - s))/\((↑q0:Int)<=(↑s:Int)->true=r0)) l.length):=by kernel_rfl
theorem vf (l:List Snap) (v:Int) (t:Int):Sat Tryz.prog (av aI) 133 [.c (.fz (.nm .snap) (l)),.c (.fn 134 [] [(0,0),(1,0)])] [.box 3 ([.int (v)]),.box 3 ([.int (t)])] ⟨[],[.c (.bool (.atom ((l.all ((bE v t))))))],none,false⟩:=by
 refine aS o_ (pw l v t) Tryz.func133 (by decide) (by kernel_rfl) ?_
 rw [uZ]
 (repeat' (first | with_reducible refine And.intro ?_ ?_ | with_reducible refine and_imp.2 ?_ | intro))
 all_goals try (first | (first | with_reducible rfl | with_reducible assumption | omega | (refine ak ?_ ?_ <;> omega)) | exact (dp (p:=(bE v t)) (by with_reducible assumption) (by with_reducible assumption) (by with_reducible assumption)) | exact (iI (p:=(bE v t)) (by with_reducible assumption) (by with_reducible assumption)) | exact (iK (p:=(bE v t)) (by with_reducible assumption) (by omega)) | exact rfl)
 all_goals try (refine ⟨0,?_⟩; (repeat' (first | with_reducible refine And.intro ?_ ?_ | with_reducible refine and_imp.2 ?_ | intro)))
 all_goals try (first | (first | with_reducible rfl | with_reducible assumption | omega | (refine ak ?_ ?_ <;> omega)) | exact (dp (p:=(bE v t)) (by with_reducible assumption) (by with_reducible assumption) (by with_reducible assumption)) | exact (iI (p:=(bE v t)) (by with_reducible assumption) (by with_reducible assumption)) | exact (iK (p:=(bE v t)) (by with_reducible assumption) (by omega)) | exact rfl)
 all_goals try (refine ⟨‹Nat› + 1,?_⟩; (repeat' (first | with_reducible refine And.intro ?_ ?_ | with_reducible refine and_imp.2 ?_ | intro)))
 all_goals (first | (first | with_reducible rfl | with_reducible assumption | omega | (refine ak ?_ ?_ <;> omega)) | exact (dp (p:=(bE v t)) (by with_reducible assumption) (by with_reducible assumption) (by with_reducible assumption)) | exact (iI (p:=(bE v t)) (by with_reducible assumption) (by with_reducible assumption)) | exact (iK (p:=(bE v t)) (by with_reducible assumption) (by omega)) | exact rfl)
def Bw:cR:=(bO 133 (bL (ai (kC (cL (.nm .snap))) (ai (kC (mJ 134 [] [(0,0),(1,0)])) aO)) (ax (bM 3 (aj cI bJ)) (ax (bM 3 (aj cI bJ)) aP)) fun (l,_,_) ((v,_),(t,_),_)=>⟨[],[.c (.bool (.atom ((l.all ((bE v t))))))],none,false⟩) (bO 136 (bL (ai (kC (cL .int)) (ai (kC (bN 0 0)) aO)) (ax (bM 29 (pj (.nm .command) bJ)) aP) fun (l,_,_) ((c,_),_)=>⟨[],[.c (.bool (.atom ((l.contains c.kind))))],none,false⟩) Bq))
theorem nM:bf Tryz.prog (av aI) Bw:=(aA (az (ab (aq bS) (ab (aq cj) al)) (ag (aG (ae au aF)) (ag (aG (ae au aF)) ao)) fun (l,_,_) ((v,_),(t,_),_) _=>vf l v t ) (aA (az (ab (aq bS) (ab (aq aJ) al)) (ag (aG (cO aF)) ao) fun (l,_,_) ((c,_),_) _=>zY l c ) o_))
end Go.Proofs.YtdggohppeeaipaaGreat
namespace Go.Proofs.YtdggohppeeaipaaGreat
open Go.RowKit
theorem Gi (k:Int):(if k=12 then some (Span.mk 0 64) else if k=8 then some (Span.mk 2 3) else if k=6 then some (Span.mk 0 8) else none).getD (dflt (.nm .span))=⟨(iq k).1,(iq k).2⟩:=by
 by_cases h1:k=12
 ·subst h1; rfl
 ·by_cases h2:k=8
  ·subst h2; rfl
  ·by_cases h3:k=6
   ·subst h3; rfl
   ·simp [iq,kV,h1,h2,h3,dflt]; rfl
theorem Ep (c:Command) (r0:Bool):cN aI Bw [] Tryz.f121 [.agg (cellsOf (.nm .command) c)] [] [.c (.bool (.atom (r0)))]=((fun (q9:Int)=>(fun (q8:Int)=>(fun (q7:Prop)=>(fun (q6:Bool)=>(fun (q5:Bool)=>(fun (q4:Bool)=>(fun (q3:Prop)=>(fun (q2:Prop)=>(fun (q1:Prop)=>(fun (q0:den (Sh.nm NT.span))=>I64 q8->I64 c.client->I64 c.seq->I64 c.set->I64 c.id->I64 c.n->c.chunks.length*(8:Nat)<=(140737488355328:Nat)->c.text.b.length<=(140737488355328:Nat)->(q8=(3:Int)->((decide (q0.lo<=c.n) && decide (c.n<=q0.hi))=true->(ck c.chunks=true->(q7->q1)/\(¬q7->q2))/\(ck c.chunks=false->q2))/\((decide (q0.lo<=c.n) && decide (c.n<=q0.hi))=false->q2))/\(¬q8=(3:Int)->(q8=(11:Int)->((decide (q0.lo<=c.n) && decide (c.n<=q0.hi))=true->(q3->((↑c.text.b.length:Int)<=(16:Int)->q1)/\((16:Int)<(↑c.text.b.length:Int)->q2))/\(¬q3->q2))/\((decide (q0.lo<=c.n) && decide (c.n<=q0.hi))=false->q2))/\(¬q8=(11:Int)->((decide (q0.lo<=c.n) && decide (c.n<=q0.hi))=true->(q3->(q7->q1)/\(¬q7->q2))/\(¬q3->q2))/\((decide (q0.lo<=c.n) && decide (c.n<=q0.hi))=false->q2)))) (((fun (j:Int)=>if j=(12:Int) then some (Span.mk (0:Int) (64:Int)) else (fun (j:Int)=>if j=q9 then some (Span.mk (2:Int) (3:Int)) else (fun (j:Int)=>if j=(6:Int) then some (Span.mk (0:Int) q9) else (fun (_:Int)=>none) j) j) j) q8).getD (dflt (Sh.nm NT.span)))) ((q6=true->(q5=true->(q4=true->kv c.id (1048576:Int) ([(5:Int),(7:Int),(9:Int),(10:Int),(11:Int)].contains q8)=r0)/\(q4=false->q2))/\(q5=false->q2))/\(q6=false->q2))) (false=r0)) ((↑c.chunks.length:Int)=(0:Int))) (kv c.set q9 ([(2:Int),(3:Int),(4:Int)].contains q8))) (kv c.seq (1048576:Int) ![(1:Int),q9].contains q8)) (kv c.client q9 ![q9].contains q8)) (c.text=Str.mk [])) c.kind) (8:Int)):=by kernel_rfl
theorem Dh (c:Command):Sat Tryz.prog (av aI) 121 [.agg (cellsOf (.nm .command) c)] [] ⟨[],[.c (.bool (.atom ((fL c))))],none,false⟩:=by
 refine aS nM [] Tryz.func121 (by decide) (by kernel_rfl) ?_
 rw [Ep]
 simp only [Gi]
 (repeat' (first | with_reducible refine And.intro ?_ ?_ | with_reducible refine and_imp.2 ?_ | intro))
 all_goals ((unfold fL wq GA; simp_all) <;> (intros; omega))
theorem Au (s:State) (v:Int) (r0:Bool):cN aI Bw [] Tryz.f118 [.agg (cellsOf (.nm .state) s),.c (.int (v))] [] [.c (.bool (.atom (r0)))]=((fun (q1:Nat)=>(fun (q0:Int)=>I64 s.version->I64 s.next->I64 s.keep->I64 s.quota->s.sess.length*(32:Nat)<=(140737488355328:Nat)->s.opens.length*(16:Nat)<=(140737488355328:Nat)->q1*(64:Nat)<=(140737488355328:Nat)->I64 v->((↑q1:Int)<=(16:Int)->I64 q0/\q0<=(1048576:Int))/\((16:Int)<(↑q1:Int)\/aw Snap.id q0 (0:Int) s.snaps=false->false=r0)/\((↑q1:Int)<=(16:Int)/\aw Snap.id q0 (0:Int) s.snaps=true->(v<(3:Int)->s.snaps.all (bE v (0:Int))=r0)/\((3:Int)<=v->s.snaps.all (bE v (16:Int))=r0))) (s.next - (1:Int))) s.snaps.length):=by kernel_rfl
theorem Ai (s:State) (v:Int) (h0:1<=s.next/\s.next<=1048576):Sat Tryz.prog (av aI) 118 [.agg (cellsOf (.nm .state) s),.c (.int (v))] [] ⟨[1<=s.next/\s.next<=1048576],[.c (.bool (.atom ((dm s v))))],none,false⟩:=by
 refine aS nM [] Tryz.func118 (by decide) (by kernel_rfl) ?_
 rw [Au]
 (repeat' (first | with_reducible refine And.intro ?_ ?_ | with_reducible refine and_imp.2 ?_ | intro))
 all_goals (first | (first | with_reducible rfl | with_reducible assumption | omega | (refine ak ?_ ?_ <;> omega)) | ((simp only [dm,fK]; simp_all) <;> (intros; omega)) | (simp only [dm,fK]; grind))
def sx:cR:=(bO 118 (bL (ai (kT (.nm .state)) (ai (kC cI) aO)) aP fun (s,v,_) (_)=>⟨[1<=s.next/\s.next<=1048576],[.c (.bool (.atom ((dm s v))))],none,false⟩) (bO 121 (bL (ai (kT (.nm .command)) aO) aP fun (c,_) (_)=>⟨[],[.c (.bool (.atom ((fL c))))],none,false⟩) Bw))
theorem gv:bf Tryz.prog (av aI) sx:=(aA (az (ab bD (ab (aq au) al)) ao fun (s,v,_) (_) hp=>Ai s v (eP hp)) (aA (az (ab bD al) ao fun (c,_) (_) _=>Dh c ) nM))
end Go.Proofs.YtdggohppeeaipaaGreat
namespace Go.Proofs.YtdggohppeeaipaaGreat
open Go.RowKit
def eE (n:Int) (used:Bool) (lo hi:Int):Bool:=if used then aW n lo hi else decide (n=0)
def cH (s:State) (at_:Nat) (k:Nat):Int:=(((s.snaps.drop (at_+1)).take k).filter fun x=>decide (x.set=(s.snaps.getD at_ (dflt (.nm .snap))).set)).length
def iO (s:State) (at_:Int):Bool:=if at_<0\/(s.snaps.length:Int)<=at_ then false else decide (cH s at_.toNat s.snaps.length<s.keep)
def nch (l:List Snap):Nat:=(l.flatMap Snap.chunks).length
def sq (c:Int) (l:List Snap):Nat:=(l.flatMap Snap.chunks).count c
def ba (id:Int) (l:List Snap):List Snap:=l.filter fun x=>!decide (x.id=id)
theorem gd {α:Type} {l:List α} {k:Nat} {d:α} (h:(k:Int)<l.length):l[k]? = some (l.getD k d):=by
 have hk:k<l.length:=by omega
 rw [List.getD_eq_getElem?_getD,List.getElem?_eq_getElem hk]; rfl
theorem oL {l:List Int} {k:Nat} (h:aw id 64 0 (l.take k)=true) (hk:(k:Int)<l.length) (hb:aW (l.getD k (dflt .int)) 1 64=true/\((k:Int)<=0\/l.getD ((k:Int) - 1).toNat (dflt .int)<l.getD k (dflt .int))):aw id 64 0 (l.take (k+1))=true:=by
 have h1:=sB hb.1
 refine fN (key:=id) h (gd hk) ?_ h1.2
 by_cases h0:k=0
 ·subst h0; show (0:Int)<l.getD 0 (dflt .int); omega
 ·rw [eV (by omega) (gd (d:=dflt .int) (by omega))]
  have:=hb.2.resolve_left (by omega)
  rwa [show ((k:Int) - 1).toNat=k - 1 by omega] at this
theorem oX {l:List Int} {k:Nat} (hk:(k:Int)<l.length) (hb:aW (l.getD k (dflt .int)) 1 64=false\/0<(k:Int)/\l.getD k (dflt .int)<=l.getD ((k:Int) - 1).toNat (dflt .int)) (h:aw id 64 0 (l.take k)=true):false=ck l:=by
 refine gg (gd (d:=dflt .int) hk) fun h2=>?_
 rcases hb with hb | ⟨h3,h4⟩
 ·have h5:=HH hb
  have:=vE h
  omega
 ·rw [eV (by omega) (gd (d:=dflt .int) (by omega))] at h2
  rw [show ((k:Int) - 1).toNat=k - 1 by omega] at h4
  have:=h2.1
  dsimp only [id] at this
  omega
theorem sk {s:State} {a:Nat}:0=cH s a 0:=by simp [cH]
theorem AY {s:State} {a k:Nat}:cH s a k<=(k:Int):=by
 have h1:=List.length_filter_le (fun x:Snap=>decide (x.set=(s.snaps.getD a (dflt (.nm .snap))).set)) ((s.snaps.drop (a+1)).take k)
 have h2:((s.snaps.drop (a+1)).take k).length<=k:=by rw [List.length_take]; omega
 unfold cH; omega
theorem AN {s:State} {a k:Nat}:0<=cH s a k:=by unfold cH; omega
theorem sD {s:State} {a k:Nat} (h:a+1+k<=s.snaps.length) (h2:s.snaps.length*64<=140737488355328):I64 (cH s a k+1):=by
 have h1:=AY (s:=s) (a:=a) (k:=k)
 have h0:=AN (s:=s) (a:=a) (k:=k)
 constructor <;> omega
theorem rU {s:State} {a k:Nat} {x:Snap} (hx:(s.snaps.drop (a+1))[k]? = some x) (h:x.set=(s.snaps.getD a (dflt (.nm .snap))).set):cH s a k+1=cH s a (k+1):=by
 unfold cH
 rw [aD hx,List.filter_append,List.length_append]
 simp [h]
theorem sj {s:State} {a k:Nat} {x:Snap} (hx:(s.snaps.drop (a+1))[k]? = some x) (h:¬ x.set=(s.snaps.getD a (dflt (.nm .snap))).set):cH s a k=cH s a (k+1):=by
 unfold cH
 rw [aD hx,List.filter_append,List.length_append]
 rw [show List.filter (fun x:Snap=>decide (x.set=(s.snaps.getD a (dflt (.nm .snap))).set)) [x]=[] by simp only [List.filter_cons,h,decide_false,List.filter_nil]; rfl]
 simp
theorem mm {s:State} {a:Int} {k:Nat} (h0:0<=a) (ha:a<s.snaps.length) (h:(s.snaps.length:Int)<=a+1+k):decide (cH s a.toNat k<s.keep)=iO s a:=by
 unfold iO
 rw [if_neg (by omega)]
 have e:∀ m:Nat,(s.snaps.length:Int)<=a+1+m->cH s a.toNat m=cH s a.toNat s.snaps.length:=fun m hm=>by
  unfold cH
  rw [List.take_of_length_le (by rw [List.length_drop]; omega),List.take_of_length_le (by rw [List.length_drop]; omega)]
 rw [e k h]
theorem lq {s:State} {a:Int} (h:a<0\/(s.snaps.length:Int)<=a):false=iO s a:=by unfold iO; rw [if_pos h]
theorem wD {id:Int} {l:List Snap} {k:Nat} {x y:Snap} (h:¬ x.id=id) (hx:l[k]? = some x) (hy:l[k]? = some y):ba id (l.take k)++[y]=ba id (l.take (k+1)):=by
 rw [hx] at hy; cases hy
 unfold ba; rw [aD hx,List.filter_append]; simp [h]
theorem xY {id:Int} {l:List Snap} {k:Nat} {x:Snap} (hx:l[k]? = some x) (h:x.id=id):ba id (l.take k)=ba id (l.take (k+1)):=by
 unfold ba; rw [aD hx,List.filter_append]; simp [h]
theorem rV {id:Int} {l:List Snap} {k:Nat} (h:(l.length:Int)<=k):ba id (l.take k)=ba id l:=by rw [List.take_of_length_le (by omega)]
theorem sL {id:Int} {l:List Snap} {k:Nat} {x:Snap} (h:(k:Int)<l.length) (hl:l.length*64<=140737488355328):((ba id (l.take k)).length+[x].length)*64<=140737488355328:=by
 have h1:=List.length_filter_le (fun x:Snap=>!decide (x.id=id)) (l.take k)
 rw [List.length_take] at h1
 unfold ba
 simp only [List.length_cons,List.length_nil]
 omega
def Ck (l:List Int):List (Nat × LI):=[(2,{ σ:=Nat,F:=fun k=>([(0,one (.fz .int (l))),(3,one (.int k))],[]),J:=fun k=>k<=l.length/\aw id 64 0 (l.take k)=true,μ:=fun k=>l.length - k })]
def qw (st:State) (x:Int):List (Nat × LI):=[(2,{ σ:=Nat,F:=fun k=>([(1,one (.int (x))),(2,one (.ptr 0 0)),(5,one (.int k))],[.box 26 (cellsOf (.nm .state) ((st)))]),J:=fun k=>k<=st.sess.length/\ah Sess.client x (st.sess.take k) = -1,μ:=fun k=>st.sess.length - k })]
def Cf (st:State) (at_:Int):List (Nat × LI):=[(5,{ σ:=Nat,F:=fun k=>([(1,one (.int (at_))),(2,one (.ptr 0 0)),(5,one (.int (cH st at_.toNat k))),(21,one (.fz (.nm .snap) (st.snaps.drop (at_+1).toNat))),(22,one (.int (st.snaps.drop (at_+1).toNat).length)),(23,one (.int k))],[.box 26 (cellsOf (.nm .state) ((st)))]),J:=fun k=>at_.toNat+1+k<=st.snaps.length/\0<=at_,μ:=fun k=>st.snaps.length - k })]
theorem Ez (l:List Int) (r0:Bool):cN aI sx (Ck l) Tryz.f72 [.c (.fz .int (l))] [] [.c (.bool (.atom (r0)))]=((fun (q4:Int)=>(fun (q3:Int)=>(fun (q2:den Sh.int)=>(fun (q1:Int)=>(fun (q0:Int)=>l.length*(8:Nat)<=(140737488355328:Nat)->∃ (s0:Nat),(l=l/\q1=(↑s0:Int))/\(s0<=l.length/\aw id q4 q1 (List.take s0 l)=true)/\∀ (s:Nat),(fun (q7:den Sh.int)=>(fun (q6:Int)=>(fun (q5:Prop)=>s<=l.length/\aw id q4 q1 (List.take s l)=true->(q6<q3->q1<=q6/\q6<q3/\(q5->q1<=q6/\q6<q3)/\(q5->I64 (q6 - q0))/\(q5->q1<=q6 - q0/\q6 - q0<q3)/\(I64 q7->(q5->I64 q7)->(q5->I64 (l.getD (q6 - q0).toNat q2))->(aW q7 q0 q4=false\/q1<q6/\q7<=l.getD (q6 - q0).toNat q2->false=r0)/\(aW q7 q0 q4=true/\(q6<=q1\/l.getD (q6 - q0).toNat q2<q7)->I64 (q6+q0)/\∃ (s':Nat),(l=l/\q6+q0=(↑s':Int))/\(s' <= l.length/\aw id q4 q1 (List.take s' l)=true)/\l.length - s' < l.length - s)))/\(q3<=q6->(decide (q0<=q3) && decide (q3<=(8:Int)))=r0)) (aW q7 q0 q4=true/\q1<q6)) (↑s:Int)) (l.getD s q2)) (1:Int)) (0:Int)) (dflt Sh.int)) (↑l.length:Int)) (64:Int)):=by kernel_rfl
theorem DR (l:List Int):Sat Tryz.prog (av aI) 72 [.c (.fz .int (l))] [] ⟨[],[.c (.bool (.atom ((ck l))))],none,false⟩:=by
 refine aS gv (Ck l) Tryz.func72 (by decide) (by kernel_rfl) ?_
 rw [Ez]
 (repeat' (first | with_reducible refine And.intro ?_ ?_ | with_reducible refine and_imp.2 ?_ | intro))
 all_goals try (first | (first | with_reducible rfl | with_reducible assumption | omega | (refine ak ?_ ?_ <;> omega)) | exact rfl | exact (oL (by with_reducible assumption) (by omega) (And.intro (by with_reducible assumption) (by assumption))) | exact (oX (by omega) (by assumption) (by with_reducible assumption)) | exact (jB (by with_reducible assumption) (by omega)))
 all_goals try (refine ⟨0,?_⟩; (repeat' (first | with_reducible refine And.intro ?_ ?_ | with_reducible refine and_imp.2 ?_ | intro)))
 all_goals try (first | (first | with_reducible rfl | with_reducible assumption | omega | (refine ak ?_ ?_ <;> omega)) | exact rfl | exact (oL (by with_reducible assumption) (by omega) (And.intro (by with_reducible assumption) (by assumption))) | exact (oX (by omega) (by assumption) (by with_reducible assumption)) | exact (jB (by with_reducible assumption) (by omega)))
 all_goals try (refine ⟨‹Nat› + 1,?_⟩; (repeat' (first | with_reducible refine And.intro ?_ ?_ | with_reducible refine and_imp.2 ?_ | intro)))
 all_goals (first | (first | with_reducible rfl | with_reducible assumption | omega | (refine ak ?_ ?_ <;> omega)) | exact rfl | exact (oL (by with_reducible assumption) (by omega) (And.intro (by with_reducible assumption) (by assumption))) | exact (oX (by omega) (by assumption) (by with_reducible assumption)) | exact (jB (by with_reducible assumption) (by omega)))
theorem Bx (x:Int) (r0:Int):cN aI sx [] Tryz.f70 [.c (.int (x))] [] [.c (.int (r0))]=(I64 x->(aW x (1:Int) (8:Int)=true->(1:Int)=r0)/\(aW x (1:Int) (8:Int)=false->(aW x (9:Int) (10:Int)=true->(2:Int)=r0)/\(aW x (9:Int) (10:Int)=false->(aW x (11:Int) (12:Int)=true->(3:Int)=r0)/\(aW x (11:Int) (12:Int)=false->(0:Int)=r0)))):=by kernel_rfl
theorem Br (x:Int):Sat Tryz.prog (av aI) 70 [.c (.int (x))] [] ⟨[],[.c (.int ((bP x)))],none,false⟩:=by
 refine aS gv [] Tryz.func70 (by decide) (by kernel_rfl) ?_
 rw [Bx]
 intro _
 by_cases h:1<=x/\x<=12
 ·rw [BL h]; simp only [aW,Bool.and_eq_true,Bool.and_eq_false_iff,decide_eq_true_eq,decide_eq_false_iff_not]; (repeat' (first | with_reducible refine And.intro ?_ ?_ | with_reducible refine and_imp.2 ?_ | intro)) <;> (repeat split) <;> omega
 ·rw [BH h]; exact ⟨fun h1=>absurd (sB h1) (by omega),fun _=>⟨fun h1=>absurd (sB h1) (by omega),fun _=>⟨fun h1=>absurd (sB h1) (by omega),fun _=>rfl⟩⟩⟩
theorem zL (n:Int) (used:Bool) (lo:Int) (hi:Int) (r0:Bool):cN aI sx [] Tryz.f71 [.c (.int (n)),.c (.bool (.atom (used))),.c (.int (lo)),.c (.int (hi))] [] [.c (.bool (.atom (r0)))]=(I64 n->I64 lo->I64 hi->(used=false->decide (n=(0:Int))=r0)/\(used=true->aW n lo hi=r0)):=by kernel_rfl
theorem yZ (n:Int) (used:Bool) (lo:Int) (hi:Int):Sat Tryz.prog (av aI) 71 [.c (.int (n)),.c (.bool (.atom (used))),.c (.int (lo)),.c (.int (hi))] [] ⟨[],[.c (.bool (.atom ((eE n used lo hi))))],none,false⟩:=by
 refine aS gv [] Tryz.func71 (by decide) (by kernel_rfl) ?_
 rw [zL]
 grind [eE]
theorem vT (st:State) (x:Int) (r0:Int):cN aI sx (qw st x) Tryz.f17 [.agg (cellsOf (.nm .state) st),.c (.int (x))] [] [.c (.int (r0))]=((fun (q2:Int)=>(fun (q1:List Sess)=>(fun (q0:Prop)=>I64 st.version->I64 st.next->I64 st.keep->I64 st.quota->q1.length*(32:Nat)<=(140737488355328:Nat)->st.opens.length*(16:Nat)<=(140737488355328:Nat)->st.snaps.length*(64:Nat)<=(140737488355328:Nat)->I64 x->∃ (s0:Nat),(x=x/\(0:Int)=(↑s0:Int)/\q0)/\(s0<=q1.length/\ah Sess.client x (List.take s0 q1) = -q2)/\∀ (s:Nat),s<=q1.length/\ah Sess.client x (List.take s q1) = -q2->((↑s:Int)<(↑q1.length:Int)->(0:Int)<=(↑s:Int)/\(↑s:Int)<(↑q1.length:Int)/\∀ (x_1:Sess),q1[s]? = some x_1->I64 x_1.client->I64 x_1.seq->I64 x_1.last.code->I64 x_1.last.n->(x_1.client=x->(↑s:Int)=r0)/\(¬x_1.client=x->I64 ((↑s:Int)+q2)/\∃ (s':Nat),(x=x/\(↑s:Int)+q2=(↑s':Int)/\q0)/\(s' <= q1.length/\ah Sess.client x (List.take s' q1) = -q2)/\q1.length - s' < q1.length - s))/\((↑q1.length:Int)<=(↑s:Int) -> -q2=r0)) (st.version=st.version/\st.next=st.next/\st.keep=st.keep/\st.quota=st.quota/\q1=q1/\st.opens=st.opens/\st.snaps=st.snaps)) st.sess) (1:Int)):=by kernel_rfl
theorem wg (st:State) (x:Int):Sat Tryz.prog (av aI) 17 [.agg (cellsOf (.nm .state) st),.c (.int (x))] [] ⟨[],[.c (.int ((ah Sess.client x st.sess)))],none,false⟩:=by
 refine aS gv (qw st x) Tryz.func17 (by decide) (by kernel_rfl) ?_
 rw [vT]
 (repeat' (first | with_reducible refine And.intro ?_ ?_ | with_reducible refine and_imp.2 ?_ | intro))
 all_goals try (first | (first | with_reducible rfl | with_reducible assumption | omega | (refine ak ?_ ?_ <;> omega)) | exact (cX (key:=Sess.client)) | exact (bX (key:=Sess.client) (by with_reducible assumption) (by with_reducible assumption) (by with_reducible assumption)) | exact (ct (key:=Sess.client) (by with_reducible assumption) (by omega)) | exact (cu (key:=Sess.client) (by with_reducible assumption) (by with_reducible assumption) (by with_reducible assumption)))
 all_goals try (refine ⟨0,?_⟩; (repeat' (first | with_reducible refine And.intro ?_ ?_ | with_reducible refine and_imp.2 ?_ | intro)))
 all_goals try (first | (first | with_reducible rfl | with_reducible assumption | omega | (refine ak ?_ ?_ <;> omega)) | exact (cX (key:=Sess.client)) | exact (bX (key:=Sess.client) (by with_reducible assumption) (by with_reducible assumption) (by with_reducible assumption)) | exact (ct (key:=Sess.client) (by with_reducible assumption) (by omega)) | exact (cu (key:=Sess.client) (by with_reducible assumption) (by with_reducible assumption) (by with_reducible assumption)))
 all_goals try (refine ⟨‹Nat› + 1,?_⟩; (repeat' (first | with_reducible refine And.intro ?_ ?_ | with_reducible refine and_imp.2 ?_ | intro)))
 all_goals (first | (first | with_reducible rfl | with_reducible assumption | omega | (refine ak ?_ ?_ <;> omega)) | exact (cX (key:=Sess.client)) | exact (bX (key:=Sess.client) (by with_reducible assumption) (by with_reducible assumption) (by with_reducible assumption)) | exact (ct (key:=Sess.client) (by with_reducible assumption) (by omega)) | exact (cu (key:=Sess.client) (by with_reducible assumption) (by with_reducible assumption) (by with_reducible assumption)))
theorem DS (st:State) (at_:Int) (r0:Bool):cN aI sx (Cf st at_) Tryz.f98 [.agg (cellsOf (.nm .state) st),.c (.int (at_))] [] [.c (.bool (.atom (r0)))]=((fun (q8:Int)=>(fun (q7:Nat)=>(fun (q6:den (Sh.nm NT.snap))=>(fun (q5:Int)=>(fun (q4:Prop)=>(fun (q3:Nat)=>(fun (q2:List Snap)=>(fun (q1:Nat)=>(fun (q0:Prop)=>I64 st.version->I64 st.next->I64 st.keep->I64 st.quota->st.sess.length*(32:Nat)<=q7->st.opens.length*(16:Nat)<=q7->q2.length*(64:Nat)<=q7->I64 at_->(at_<q8\/(↑q2.length:Int)<=at_->false=r0)/\(q4/\at_<(↑q2.length:Int)->I64 (at_+q5)/\q8<=at_+q5/\at_+q5<=(↑q2.length:Int)/\∃ (s0:Nat),(fun (q13:Nat)=>(fun (q12:Nat)=>(fun (q11:den (Sh.nm NT.snap))=>(fun (q10:List (den (Sh.nm NT.snap)))=>(fun (q9:Int)=>(at_=at_/\q8=cH st q3 s0/\q10=q10/\(↑q10.length:Int)=q9/\q8=(↑s0:Int)/\q0)/\(q13+s0<=q12/\q4)/\∀ (s:Nat),(fun (q15:Int)=>(fun (q14:Int)=>q13+s<=q12/\q4->((↑s:Int)<q9->q8<=(↑s:Int)/\(↑s:Int)<(↑q10.length:Int)/\∀ (x:Snap),q10[s]? = some x->I64 x.id->I64 x.set->x.chunks.length*(8:Nat)<=q7->x.tag.b.length<=q7->q4/\at_<(↑q2.length:Int)/\(I64 q11.id->I64 q11.set->q11.chunks.length*(8:Nat)<=q7->q11.tag.b.length<=q7->(x.set=q11.set->I64 (q15+q5)/\I64 q14/\∃ (s':Nat),(at_=at_/\q15+q5=cH st q3 s' /\ q10=q10/\q9=q9/\q14=(↑s':Int)/\q0)/\(q13+s' <= q12/\q4)/\q12 - s' < q12 - s)/\(¬x.set=q11.set->I64 q14/\∃ (s':Nat),(at_=at_/\q15=cH st q3 s' /\ q10=q10/\q9=q9/\q14=(↑s':Int)/\q0)/\(q13+s' <= q12/\q4)/\q12 - s' < q12 - s)))/\(q9<=(↑s:Int)->decide (q15<st.keep)=r0)) ((↑s:Int)+q5)) (cH st q3 s)) (↑(List.drop q1 q2).length:Int)) (List.drop q1 q2)) (q2.getD q3 q6)) q2.length) (q3+(1:Nat)))) (st.version=st.version/\st.next=st.next/\st.keep=st.keep/\st.quota=st.quota/\st.sess=st.sess/\st.opens=st.opens/\q2=q2)) (at_+q5).toNat) st.snaps) at_.toNat) (q8<=at_)) (1:Int)) (dflt (Sh.nm NT.snap))) (140737488355328:Nat)) (0:Int)):=by kernel_rfl
theorem Ds (st:State) (at_:Int):Sat Tryz.prog (av aI) 98 [.agg (cellsOf (.nm .state) st),.c (.int (at_))] [] ⟨[],[.c (.bool (.atom ((iO st at_))))],none,false⟩:=by
 refine aS gv (Cf st at_) Tryz.func98 (by decide) (by kernel_rfl) ?_
 rw [DS]
 (repeat' (first | with_reducible refine And.intro ?_ ?_ | with_reducible refine and_imp.2 ?_ | intro))
 all_goals try (first | (first | with_reducible rfl | with_reducible assumption | omega | (refine ak ?_ ?_ <;> omega)) | exact sk | exact (lq (by assumption)) | exact (sD (by omega) (by omega)) | exact (mm (by omega) (by omega) (by rw [List.length_drop] at *; omega)) | exact (rU (by rw [show (at_+1).toNat=at_.toNat+1 by omega] at *; assumption) (by with_reducible assumption)) | exact (by have:=‹_<((List.length (List.drop _ _):Nat):Int)›; rw [List.length_drop] at this; omega) | exact (sj (by rw [show (at_+1).toNat=at_.toNat+1 by omega] at *; assumption) (by with_reducible assumption)))
 all_goals try (refine ⟨0,?_⟩; (repeat' (first | with_reducible refine And.intro ?_ ?_ | with_reducible refine and_imp.2 ?_ | intro)))
 all_goals try (first | (first | with_reducible rfl | with_reducible assumption | omega | (refine ak ?_ ?_ <;> omega)) | exact sk | exact (lq (by assumption)) | exact (sD (by omega) (by omega)) | exact (mm (by omega) (by omega) (by rw [List.length_drop] at *; omega)) | exact (rU (by rw [show (at_+1).toNat=at_.toNat+1 by omega] at *; assumption) (by with_reducible assumption)) | exact (by have:=‹_<((List.length (List.drop _ _):Nat):Int)›; rw [List.length_drop] at this; omega) | exact (sj (by rw [show (at_+1).toNat=at_.toNat+1 by omega] at *; assumption) (by with_reducible assumption)))
 all_goals try (refine ⟨‹Nat› + 1,?_⟩; (repeat' (first | with_reducible refine And.intro ?_ ?_ | with_reducible refine and_imp.2 ?_ | intro)))
 all_goals (first | (first | with_reducible rfl | with_reducible assumption | omega | (refine ak ?_ ?_ <;> omega)) | exact sk | exact (lq (by assumption)) | exact (sD (by omega) (by omega)) | exact (mm (by omega) (by omega) (by rw [List.length_drop] at *; omega)) | exact (rU (by rw [show (at_+1).toNat=at_.toNat+1 by omega] at *; assumption) (by with_reducible assumption)) | exact (by have:=‹_<((List.length (List.drop _ _):Nat):Int)›; rw [List.length_drop] at this; omega) | exact (sj (by rw [show (at_+1).toNat=at_.toNat+1 by omega] at *; assumption) (by with_reducible assumption)))
def qu:cR:=(bO 98 (bL (ai (kT (.nm .state)) (ai (kC cI) aO)) aP fun (st,at_,_) (_)=>⟨[],[.c (.bool (.atom ((iO st at_))))],none,false⟩) (bO 17 (bL (ai (kT (.nm .state)) (ai (kC cI) aO)) aP fun (st,x,_) (_)=>⟨[],[.c (.int ((ah Sess.client x st.sess)))],none,false⟩) (bO 71 (bL (ai (kC cI) (ai (kC cB) (ai (kC cI) (ai (kC cI) aO)))) aP fun (n,used,lo,hi,_) (_)=>⟨[],[.c (.bool (.atom ((eE n used lo hi))))],none,false⟩) (bO 70 (bL (ai (kC cI) aO) aP fun (x,_) (_)=>⟨[],[.c (.int ((bP x)))],none,false⟩) (bO 72 (bL (ai (kC (cL .int)) aO) aP fun (l,_) (_)=>⟨[],[.c (.bool (.atom ((ck l))))],none,false⟩) sx)))))
theorem fo:bf Tryz.prog (av aI) qu:=(aA (az (ab bD (ab (aq au) al)) ao fun (st,at_,_) (_) _=>Ds st at_ ) (aA (az (ab bD (ab (aq au) al)) ao fun (st,x,_) (_) _=>wg st x ) (aA (az (ab (aq au) (ab (aq nB) (ab (aq au) (ab (aq au) al)))) ao fun (n,used,lo,hi,_) (_) _=>yZ n used lo hi ) (aA (az (ab (aq au) al) ao fun (x,_) (_) _=>Br x ) (aA (az (ab (aq bS) al) ao fun (l,_) (_) _=>DR l ) gv)))))
end Go.Proofs.YtdggohppeeaipaaGreat
namespace Go.Proofs.YtdggohppeeaipaaGreat
open Go.RowKit
theorem sQ {α:Type} {l:List α} {k:Nat} {d:α} (h:(k:Int)<l.length):l.set k (l.getD k d)=l:=by
 have hk:k<l.length:=by omega
 rw [List.getD_eq_getElem?_getD,List.getElem?_eq_getElem hk]; exact List.set_getElem_self hk
theorem sH {l:List Snap} {k:Nat} {x:Snap} (h:(k:Int)<l.length) (hl:l.length*64<=140737488355328):((l.take k).length+[x].length)*64<=140737488355328:=by
 rw [List.length_take]; simp only [List.length_cons,List.length_nil]; omega
def xq (l:List Snap) (k:Nat):Nat:=((List.range k).filter fun (i:Nat)=>decide (0<sq ((i:Int)+1) l)).length
def distF (l:List Snap):Nat:=xq l 64
def yN (st:State):List (Nat × LI):=[(5,{ σ:=Nat,F:=fun k=>([(1,one (.ptr 0 0)),(2,one (.ptr 1 0)),(18,one (.int st.snaps.length)),(19,one (.int k))],[.box 26 ([.int ((st.version)),.int ((st.next)),.int ((st.keep)),.int ((st.quota)),.own 2,.own 3,.own 4]),.box 26 ([.int ((0)),.int ((0)),.int ((0)),.int ((0)),.em true,.em true,.em true]),.row 44 (.nm .sess) ((st.sess)),.row 77 (.nm .opn) ((st.opens)),.row 59 (.nm .snap) ((st.snaps))]),J:=fun k=>k<=st.snaps.length,μ:=fun k=>st.snaps.length - k })]
def yd (st:State):List (Nat × LI):=[(6,{ σ:=Nat,F:=fun k=>([(1,one (.ptr 0 0)),(2,one (.ptr 1 0)),(3,one (.ptr 2 0)),(4,one (.int k))],[.box 26 (cellsOf (.nm .state) ((st))),.box 26 ([.int ((0)),.int ((0)),.int ((0)),.int ((0)),.em true,.em true,.em true]),.box 26 ([.int ((st.version)),.int ((st.next)),.int ((st.keep)),.int ((st.quota)),.own 3,.own 4,.own 5]),.row 44 (.nm .sess) ((st.sess)),.row 77 (.nm .opn) ((st.opens)),.row 59 (.nm .snap) ((st.snaps.take k))]),J:=fun k=>k<=st.snaps.length,μ:=fun k=>st.snaps.length - k })]
theorem EM (st:State) (v:Int) (r0:Int):cN aI qu [] Tryz.f77 [.agg (cellsOf (.nm .state) st),.c (.int (v))] [] [.c (.int (r0))]=((fun (q12:Int)=>(fun (q11:Bool)=>(fun (q10:Bool)=>(fun (q9:Int)=>(fun (q8:Int)=>(fun (q7:Int)=>(fun (q6:Int)=>(fun (q5:Int)=>(fun (q4:Int)=>(fun (q3:Prop)=>(fun (q2:Prop)=>(fun (q1:Prop)=>(fun (q0:Prop)=>I64 st.version->I64 q12->I64 st.keep->I64 q8->st.sess.length*(32:Nat)<=(140737488355328:Nat)->st.opens.length*(16:Nat)<=(140737488355328:Nat)->st.snaps.length*(64:Nat)<=(140737488355328:Nat)->I64 v->(aW v q6 q9=false->q6=r0)/\(aW v q6 q9=true->(v<q9->q5<=q7/\q5<=q7/\(((q0/\aW q8 q4 q4=true)/\q1)/\q2->q6<=q12/\q12<=q7)/\((((q3\/aW q8 q4 q4=false)\/aw Sess.client q5 q4 st.sess=false\/q11=false)\/aw Opn.set q5 q4 st.opens=false\/q10=false)\/dm st v=false->(6:Int)=r0)/\((((q0/\aW q8 q4 q4=true)/\q1)/\q2)/\dm st v=true->q4=r0))/\(q9<=v->q5<=q7/\q5<=q7/\(((q0/\aW q8 q4 (64:Int)=true)/\q1)/\q2->q6<=q12/\q12<=q7)/\((((q3\/aW q8 q4 (64:Int)=false)\/aw Sess.client q5 q4 st.sess=false\/q11=false)\/aw Opn.set q5 q4 st.opens=false\/q10=false)\/dm st v=false->(6:Int)=r0)/\((((q0/\aW q8 q4 (64:Int)=true)/\q1)/\q2)/\dm st v=true->q4=r0)))) ((aW st.version q6 q9=true/\aW q12 q6 q7=true)/\aW st.keep q4 q5=true)) (aw Sess.client q5 q4 st.sess=true/\q11=true)) (aw Opn.set q5 q4 st.opens=true/\q10=true)) ((aW st.version q6 q9=false\/aW q12 q6 q7=false)\/aW st.keep q4 q5=false)) (0:Int)) (8:Int)) (1:Int)) (1048576:Int)) st.quota) (3:Int)) (st.opens.all aN)) (st.sess.all aM)) st.next):=by kernel_rfl
theorem DC (st:State) (v:Int):Sat Tryz.prog (av aI) 77 [.agg (cellsOf (.nm .state) st),.c (.int (v))] [] ⟨[],[.c (.int ((mayF st v)))],none,false⟩:=by
 refine aS fo [] Tryz.func77 (by decide) (by kernel_rfl) ?_
 rw [EM]
 (repeat' (first | with_reducible refine And.intro ?_ ?_ | with_reducible refine and_imp.2 ?_ | intro))
 all_goals (first | (first | with_reducible rfl | with_reducible assumption | omega | (refine ak ?_ ?_ <;> omega)) | exact (sB (a:=1) (b:=1048576) (by with_reducible assumption)).1 | exact (sB (a:=1) (b:=1048576) (by with_reducible assumption)).2 | (simp only [mayF,cT,iA,g_]; grind))
theorem BZ (c:Command) (v:Int) (r0:Int):cN aI qu [] Tryz.f84 [.agg (cellsOf (.nm .command) c),.c (.int (v))] [] [.c (.int (r0))]=((fun (q0:Int)=>I64 c.kind->I64 c.client->I64 c.seq->I64 c.set->I64 c.id->I64 c.n->c.chunks.length*(8:Nat)<=(140737488355328:Nat)->c.text.b.length<=(140737488355328:Nat)->I64 v->I64 q0->(jo v=false\/q0=(0:Int)->(1:Int)=r0)/\(jo v=true/\¬q0=(0:Int)->(v<q0->(10:Int)=r0)/\(q0<=v->(fL c=false->(1:Int)=r0)/\(fL c=true->(0:Int)=r0)))) (bP c.kind)):=by kernel_rfl
theorem AQ (c:Command) (v:Int):Sat Tryz.prog (av aI) 84 [.agg (cellsOf (.nm .command) c),.c (.int (v))] [] ⟨[],[.c (.int ((bI c v)))],none,false⟩:=by
 refine aS fo [] Tryz.func84 (by decide) (by kernel_rfl) ?_
 rw [BZ]
 rw [show jo v=aW v 1 3 from rfl]
 (repeat' (first | with_reducible refine And.intro ?_ ?_ | with_reducible refine and_imp.2 ?_ | intro))
 all_goals (first | (first | with_reducible rfl | with_reducible assumption | omega | (refine ak ?_ ?_ <;> omega)) | (simp only [bI]; grind))
theorem Aq (st:State) (r0:Int) (r1:Int) (r2:Int) (r3:Int) (r4:List Sess) (r5:List Opn) (r6:List Snap):sZ aI qu (yN st) Tryz.f32 [.agg (cellsOf (.nm .state) st)] [] [.agg ([.int (r0),.int (r1),.int (r2),.int (r3),.own 0,.own 1,.own 2])] [.row 44 (.nm .sess) (r4),.row 77 (.nm .opn) (r5),.row 59 (.nm .snap) (r6)]=((fun (q4:Int)=>(fun (q3:Nat)=>(fun (q2:den (Sh.nm NT.snap))=>(fun (q1:Prop)=>(fun (q0:List Snap)=>I64 q4->I64 st.next->I64 st.keep->I64 st.quota->st.sess.length*(32:Nat)<=q3->st.opens.length*(16:Nat)<=q3->q0.length*(64:Nat)<=q3->∃ (s0:Nat),(fun (q5:Nat)=>((↑q0.length:Int)=(↑q5:Int)/\(0:Int)=(↑s0:Int)/\q4=q4/\st.next=st.next/\st.keep=st.keep/\st.quota=st.quota/\q1/\q1/\q1/\q1/\st.sess=st.sess/\st.opens=st.opens/\q0=q0)/\s0<=q5/\∀ (s:Nat),(fun (q7:den (Sh.nm NT.snap))=>(fun (q6:Prop)=>s<=q5->((↑s:Int)<(↑q5:Int)->(0:Int)<=(↑s:Int)/\(↑s:Int)<(↑q0.length:Int)/\(0:Int)<=(↑s:Int)/\(↑s:Int)<(↑q0.length:Int)/\(I64 q7.id->I64 q7.set->q6->q7.tag.b.length<=q3->q6->I64 q7.id->I64 q7.set->q6->q7.tag.b.length<=q3->I64 ((↑s:Int)+(1:Int))/\∃ (s':Nat),((↑q5:Int)=(↑q5:Int)/\(↑s:Int)+(1:Int)=(↑s':Int)/\q4=q4/\st.next=st.next/\st.keep=st.keep/\st.quota=st.quota/\q1/\q1/\q1/\q1/\st.sess=st.sess/\st.opens=st.opens/\q0.set s q7=q0)/\s' <= q5/\q5 - s' < q5 - s))/\((↑q5:Int)<=(↑s:Int)->q4=r0/\st.next=r1/\st.keep=r2/\st.quota=r3/\st.sess=r4/\st.opens=r5/\q0=r6)) (q7.chunks.length*(8:Nat)<=q3)) (q0.getD s q2)) q0.length) st.snaps) ((0:Int)=(0:Int))) (dflt (Sh.nm NT.snap))) (140737488355328:Nat)) st.version):=by kernel_rfl
theorem Ah (st:State):Sat Tryz.prog (av aI) 32 [.agg (cellsOf (.nm .state) st)] [] ⟨[],[.agg ([.int ((st.version)),.int ((st.next)),.int ((st.keep)),.int ((st.quota)),.own 0,.own 1,.own 2])],some ([.row 44 (.nm .sess) ((st.sess)),.row 77 (.nm .opn) ((st.opens)),.row 59 (.nm .snap) ((st.snaps))]),true⟩:=by
 refine ep fo (yN st) Tryz.func32 (by decide) (by kernel_rfl) ?_
 rw [Aq]
 (repeat' (first | with_reducible refine And.intro ?_ ?_ | with_reducible refine and_imp.2 ?_ | intro))
 all_goals try (first | (first | with_reducible rfl | with_reducible assumption | omega | (refine ak ?_ ?_ <;> omega)) | exact rfl | exact (sQ (by omega)))
 all_goals try (refine ⟨0,?_⟩; (repeat' (first | with_reducible refine And.intro ?_ ?_ | with_reducible refine and_imp.2 ?_ | intro)))
 all_goals try (first | (first | with_reducible rfl | with_reducible assumption | omega | (refine ak ?_ ?_ <;> omega)) | exact rfl | exact (sQ (by omega)))
 all_goals try (refine ⟨‹Nat› + 1,?_⟩; (repeat' (first | with_reducible refine And.intro ?_ ?_ | with_reducible refine and_imp.2 ?_ | intro)))
 all_goals (first | (first | with_reducible rfl | with_reducible assumption | omega | (refine ak ?_ ?_ <;> omega)) | exact rfl | exact (sQ (by omega)))
theorem BD (st:State) (r0:Int) (r1:Int) (r2:Int) (r3:Int) (r4:List Sess) (r5:List Opn) (r6:List Snap):sZ aI qu (yd st) Tryz.f20 [.agg (cellsOf (.nm .state) st)] [] [.agg ([.int (r0),.int (r1),.int (r2),.int (r3),.own 0,.own 1,.own 2])] [.row 44 (.nm .sess) (r4),.row 77 (.nm .opn) (r5),.row 59 (.nm .snap) (r6)]=((fun (q8:Prop)=>(fun (q7:Prop)=>(fun (q6:Prop)=>(fun (q5:Nat)=>(fun (q4:Prop)=>(fun (q3:Prop)=>(fun (q2:Int)=>(fun (q1:List Snap)=>(fun (q0:Prop)=>I64 q2->I64 st.next->I64 st.keep->I64 st.quota->st.sess.length*(32:Nat)<=q5->st.opens.length*(16:Nat)<=q5->q1.length*(64:Nat)<=q5->st.sess.length*(32:Nat)<=q5/\st.opens.length*(16:Nat)<=q5/\∃ (s0:Nat),((0:Int)=(↑s0:Int)/\q2=q2/\q7/\q6/\q3/\q8/\q4/\q1=q1/\q0/\q0/\q0/\q0/\q2=q2/\q7/\q6/\q3/\q8/\q4/\List.take s0 q1=[])/\s0<=q1.length/\∀ (s:Nat),s<=q1.length->((↑s:Int)<(↑q1.length:Int)->(0:Int)<=(↑s:Int)/\(↑s:Int)<(↑q1.length:Int)/\∀ (x:Snap),(fun (q9:Prop)=>q1[s]? = some x->I64 x.id->I64 x.set->q9->x.tag.b.length<=q5->q9/\((List.take s q1).length+[x].length)*(64:Nat)<=q5/\I64 ((↑s:Int)+(1:Int))/\∃ (s':Nat),((↑s:Int)+(1:Int)=(↑s':Int)/\q2=q2/\q7/\q6/\q3/\q8/\q4/\q1=q1/\q0/\q0/\q0/\q0/\q2=q2/\q7/\q6/\q3/\q8/\q4/\List.take s q1++[x]=List.take s' q1)/\s' <= q1.length/\q1.length - s' < q1.length - s) (x.chunks.length*(8:Nat)<=q5))/\((↑q1.length:Int)<=(↑s:Int)->q2=r0/\st.next=r1/\st.keep=r2/\st.quota=r3/\st.sess=r4/\st.opens=r5/\List.take s q1=r6)) ((0:Int)=(0:Int))) st.snaps) st.version) (st.quota=st.quota)) (st.opens=st.opens)) (140737488355328:Nat)) (st.keep=st.keep)) (st.next=st.next)) (st.sess=st.sess)):=by kernel_rfl
theorem Av (st:State):Sat Tryz.prog (av aI) 20 [.agg (cellsOf (.nm .state) st)] [] ⟨[],[.agg ([.int ((st.version)),.int ((st.next)),.int ((st.keep)),.int ((st.quota)),.own 0,.own 1,.own 2])],some ([.row 44 (.nm .sess) ((st.sess)),.row 77 (.nm .opn) ((st.opens)),.row 59 (.nm .snap) ((st.snaps))]),true⟩:=by
 refine ep fo (yd st) Tryz.func20 (by decide) (by kernel_rfl) ?_
 rw [BD]
 (repeat' (first | with_reducible refine And.intro ?_ ?_ | with_reducible refine and_imp.2 ?_ | intro))
 all_goals try (first | (first | with_reducible rfl | with_reducible assumption | omega | (refine ak ?_ ?_ <;> omega)) | exact rfl | exact (aD (by with_reducible assumption)).symm | exact (List.take_of_length_le (by omega)) | exact (sH (by omega) (by omega)))
 all_goals try (refine ⟨0,?_⟩; (repeat' (first | with_reducible refine And.intro ?_ ?_ | with_reducible refine and_imp.2 ?_ | intro)))
 all_goals try (first | (first | with_reducible rfl | with_reducible assumption | omega | (refine ak ?_ ?_ <;> omega)) | exact rfl | exact (aD (by with_reducible assumption)).symm | exact (List.take_of_length_le (by omega)) | exact (sH (by omega) (by omega)))
 all_goals try (refine ⟨‹Nat› + 1,?_⟩; (repeat' (first | with_reducible refine And.intro ?_ ?_ | with_reducible refine and_imp.2 ?_ | intro)))
 all_goals (first | (first | with_reducible rfl | with_reducible assumption | omega | (refine ak ?_ ?_ <;> omega)) | exact rfl | exact (aD (by with_reducible assumption)).symm | exact (List.take_of_length_le (by omega)) | exact (sH (by omega) (by omega)))
theorem vy (x:Snap) (n:Int) (v:Int) (r0:Bool):cN aI (Ax qu) [] Tryz.f68 [.agg (cellsOf (.nm .snap) x),.c (.int (n)),.c (.int (v))] [] [.c (.bool (.atom (r0)))]=(I64 x.id->I64 x.set->x.chunks.length*(8:Nat)<=(140737488355328:Nat)->x.tag.b.length<=(140737488355328:Nat)->I64 n->I64 v->(ck x.chunks && aW x.id (1:Int) (eT n (1:Int)) && aW x.set (1:Int) (8:Int) && (!x.held || decide ((2:Int)<=v)) && decide ((↑x.tag.b.length:Int)<=(16:Int)) && (decide (x.tag=Str.mk []) || decide ((3:Int)<=v)))=r0):=by kernel_rfl
theorem uO (x:Snap) (n:Int) (v:Int):Sat Tryz.prog (av aI) 68 [.agg (cellsOf (.nm .snap) x),.c (.int (n)),.c (.int (v))] [] ⟨[],[.c (.bool (.atom ((dG n v x))))],none,false⟩:=by
 refine aS (tq fo) [] Tryz.func68 (by decide) (by kernel_rfl) ?_
 rw [vy]
 intros; rfl
theorem A_ (x:Snap) (y:Snap) (r0:Bool):cN aI qu [] Tryz.f106 [.agg (cellsOf (.nm .snap) x),.agg (cellsOf (.nm .snap) y)] [] [.c (.bool (.atom (r0)))]=(I64 x.id->I64 x.set->x.chunks.length*(8:Nat)<=(140737488355328:Nat)->x.tag.b.length<=(140737488355328:Nat)->I64 y.id->I64 y.set->y.chunks.length*(8:Nat)<=(140737488355328:Nat)->y.tag.b.length<=(140737488355328:Nat)->(decide (x.chunks=y.chunks) && decide (x.id=y.id) && decide (x.set=y.set) && x.held == y.held && decide (x.tag=y.tag))=r0):=by kernel_rfl
theorem Bs (x:Snap) (y:Snap):Sat Tryz.prog (av aI) 106 [.agg (cellsOf (.nm .snap) x),.agg (cellsOf (.nm .snap) y)] [] ⟨[],[.c (.bool (.atom ((decide (x=y)))))],none,false⟩:=by
 refine aS fo [] Tryz.func106 (by decide) (by kernel_rfl) ?_
 rw [A_]
 intros; cases x; cases y; simp only [Snap.mk.injEq]; grind
def nE:cR:=(bO 106 (bL (ai (kT (.nm .snap)) (ai (kT (.nm .snap)) aO)) aP fun (x,y,_) (_)=>⟨[],[.c (.bool (.atom ((decide (x=y)))))],none,false⟩) (bO 68 (bL (ai (kT (.nm .snap)) (ai (kC cI) (ai (kC cI) aO))) aP fun (x,n,v,_) (_)=>⟨[],[.c (.bool (.atom ((dG n v x))))],none,false⟩) (bO 20 (bL (ai (kT (.nm .state)) aO) aP fun (st,_) (_)=>⟨[],[.agg ([.int ((st.version)),.int ((st.next)),.int ((st.keep)),.int ((st.quota)),.own 0,.own 1,.own 2])],some ([.row 44 (.nm .sess) ((st.sess)),.row 77 (.nm .opn) ((st.opens)),.row 59 (.nm .snap) ((st.snaps))]),true⟩) (bO 32 (bL (ai (kT (.nm .state)) aO) aP fun (st,_) (_)=>⟨[],[.agg ([.int ((st.version)),.int ((st.next)),.int ((st.keep)),.int ((st.quota)),.own 0,.own 1,.own 2])],some ([.row 44 (.nm .sess) ((st.sess)),.row 77 (.nm .opn) ((st.opens)),.row 59 (.nm .snap) ((st.snaps))]),true⟩) (bO 84 (bL (ai (kT (.nm .command)) (ai (kC cI) aO)) aP fun (c,v,_) (_)=>⟨[],[.c (.int ((bI c v)))],none,false⟩) (bO 77 (bL (ai (kT (.nm .state)) (ai (kC cI) aO)) aP fun (st,v,_) (_)=>⟨[],[.c (.int ((mayF st v)))],none,false⟩) qu))))))
theorem fJ:bf Tryz.prog (av aI) nE:=(aA (az (ab bD (ab bD al)) ao fun (x,y,_) (_) _=>Bs x y ) (aA (az (ab bD (ab (aq au) (ab (aq au) al))) ao fun (x,n,v,_) (_) _=>uO x n v ) (aA (az (ab bD al) ao fun (st,_) (_) _=>Av st ) (aA (az (ab bD al) ao fun (st,_) (_) _=>Ah st ) (aA (az (ab bD (ab (aq au) al)) ao fun (c,v,_) (_) _=>AQ c v ) (aA (az (ab bD (ab (aq au) al)) ao fun (st,v,_) (_) _=>DC st v ) fo))))))
end Go.Proofs.YtdggohppeeaipaaGreat
namespace Go.Proofs.YtdggohppeeaipaaGreat
open Go.RowKit
def dj (s:State):State:={ s with sess:=s.sess.take 20,opens:=s.opens.take 20,snaps:=(s.snaps.take 20).map fun x=>{ x with chunks:=x.chunks.take 12,tag:=x.tag.cut 0 40 } }
def tw (l:List Snap) (id:Int) (k:Nat):List Int:=((List.range k).filter fun (i:Nat)=>decide (0<sq ((i:Int)+1) l) && decide (sq ((i:Int)+1) (ba id l)=0)).map fun (i:Nat)=>(i:Int)+1
def cC (xs:List Int) (l:List Int):List Int:=l.foldl (fun xs n=>if 1<=n/\n<=64 then xs.set n.toNat (xs.getD n.toNat 0+1) else xs) xs
theorem zD {a b:List Snap} {k:Nat} (h:a.take k=b.take k) (e:decide (a.getD k (dflt (.nm .snap))=b.getD k (dflt (.nm .snap)))=true) (hk:(k:Int)<a.length) (hb:(k:Int)<b.length):a.take (k+1)=b.take (k+1):=tX h (by omega) (by omega) (of_decide_eq_true e)
theorem xQ {a b:List Snap} {k:Nat} (e:decide (a.getD k (dflt (.nm .snap))=b.getD k (dflt (.nm .snap)))=false) (_:(k:Int)<a.length) (_:(k:Int)<b.length):false=decide (a=b):=by
 symm; apply decide_eq_false; rintro rfl; simp at e
theorem Ea {l:List Snap} {id:Int} (h:nch l<=1048576):nch (ba id l)<=1048576:=by
 refine Nat.le_trans ?_ h
 unfold nch ba
 induction l with
 | nil=>exact Nat.le_refl _
 | cons x l ih=>
  have hl:(l.flatMap Snap.chunks).length<=1048576:=by unfold nch at h; rw [List.flatMap_cons,List.length_append] at h; omega
  have:=ih hl
  rw [List.filter_cons,List.flatMap_cons,List.length_append]
  split
  ·rw [List.flatMap_cons,List.length_append]; omega
  ·omega
def gP (l:List Snap) (id:Int):List Int:=tw l id 64
theorem uu {st:State} {k:Nat} {x:Snap} (hx:st.snaps[k]? = some x) (h:(k:Int)<20):(dj st).snaps[k]? = some { x with chunks:=x.chunks.take 12,tag:=x.tag.cut 0 40 }:=by
 show (List.map _ (st.snaps.take 20))[k]? = _
 rw [List.getElem?_map,List.getElem?_take_of_lt (by omega),hx]; rfl
theorem Ed {st:State} {k:Nat} {x:Snap} (hx:st.snaps[k]? = some x) (h:(k:Int)<20) (_:12<(x.chunks.length:Int)) (_:40<(x.tag.b.length:Int)):(dj st).snaps.take k++[Snap.mk x.id x.set (x.chunks.take 12) x.held ⟨x.tag.b.take 40⟩]=(dj st).snaps.take (k+1):=by
 rw [aD (uu hx h)]; rfl
theorem Ev {st:State} {k:Nat} {x:Snap} (hx:st.snaps[k]? = some x) (h:(k:Int)<20) (_:12<(x.chunks.length:Int)) (h2:(x.tag.b.length:Int)<=40):(dj st).snaps.take k++[Snap.mk x.id x.set (x.chunks.take 12) x.held x.tag]=(dj st).snaps.take (k+1):=by
 rw [aD (uu hx h),show x.tag.cut 0 40=x.tag from (mj h2).symm]
theorem Em {st:State} {k:Nat} {x:Snap} (hx:st.snaps[k]? = some x) (h:(k:Int)<20) (h1:(x.chunks.length:Int)<=12) (_:40<(x.tag.b.length:Int)):(dj st).snaps.take k++[Snap.mk x.id x.set x.chunks x.held ⟨x.tag.b.take 40⟩]=(dj st).snaps.take (k+1):=by
 rw [aD (uu hx h),show x.chunks.take 12=x.chunks from List.take_of_length_le (by omega)]; rfl
theorem Ek {st:State} {k:Nat} {x:Snap} (hx:st.snaps[k]? = some x) (h:(k:Int)<20) (h1:(x.chunks.length:Int)<=12) (h2:(x.tag.b.length:Int)<=40):(dj st).snaps.take k++[x]=(dj st).snaps.take (k+1):=by
 rw [aD (uu hx h),show x.chunks.take 12=x.chunks from List.take_of_length_le (by omega),show x.tag.cut 0 40=x.tag from (mj h2).symm]
theorem FV {st:State}:(dj st).snaps.length=min 20 st.snaps.length:=by
 show (List.map _ (st.snaps.take 20)).length=_
 rw [List.length_map,List.length_take]
theorem su {st:State} {k:Nat} {y:Snap} (h:(k:Int)<20):(((dj st).snaps.take k).length+[y].length)*64<=140737488355328:=by
 rw [List.length_take]; simp only [List.length_cons,List.length_nil]; omega
theorem wO {st:State} {k:Nat} (h:(k:Int)<20) (h2:(k:Int)<st.snaps.length):k+1<=(dj st).snaps.length:=by rw [FV]; omega
theorem yu {st:State} {k:Nat} (h:(st.snaps.length:Int)<=k\/20<=(k:Int)):(dj st).snaps.length<=k:=by rw [FV]; omega
def nG (xs l:List Int):Prop:=∀ i,0<=xs.getD i 0/\xs.getD i 0+l.length<=4611686018427387904
theorem rb {xs:List Int} {i j:Nat} {v:Int}:(xs.set j v).getD i 0=if j=i/\j<xs.length then v else xs.getD i 0:=by
 rw [List.getD_eq_getElem?_getD,List.getElem?_set,List.getD_eq_getElem?_getD]
 by_cases h:j=i
 ·subst h
  by_cases h2:j<xs.length
  ·simp [h2]
  ·simp [h2]
 ·simp [h]
theorem sC:∀ (l xs:List Int) (i:Nat),xs.getD i 0<=(cC xs l).getD i 0/\(cC xs l).getD i 0<=xs.getD i 0+l.length
 | [],xs,i=>by simp [cC]
 | n :: l,xs,i=>by
  have h:=sC l (if 1<=n/\n<=64 then xs.set n.toNat (xs.getD n.toNat 0+1) else xs) i
  have e:cC xs (n :: l)=cC (if 1<=n/\n<=64 then xs.set n.toNat (xs.getD n.toNat 0+1) else xs) l:=rfl
  rw [e]
  have h2:xs.getD i 0<=(if 1<=n/\n<=64 then xs.set n.toNat (xs.getD n.toNat 0+1) else xs).getD i 0/\(if 1<=n/\n<=64 then xs.set n.toNat (xs.getD n.toNat 0+1) else xs).getD i 0<=xs.getD i 0+1:=by
   split
   ·rw [rb]; split
    ·rename_i h3; rw [h3.1]; omega
    ·omega
   ·omega
  rw [List.length_cons]; omega
theorem qh {xs l:List Int} {k:Nat} {n:Int} (hx:l[k]? = some n):cC xs (l.take (k+1))=if 1<=n/\n<=64 then (cC xs (l.take k)).set n.toNat ((cC xs (l.take k)).getD n.toNat 0+1) else cC xs (l.take k):=by
 rw [aD hx,cC,List.foldl_append]; rfl
theorem wQ {xs l:List Int} {k:Nat} {n:Int} (hx:l[k]? = some n) (h:1<=n/\n<=64):(cC xs (l.take k)).set n.toNat ((cC xs (l.take k)).getD n.toNat (dflt .int)+1)=cC xs (l.take (k+1)):=by rw [qh hx,if_pos h]; rfl
theorem xB {xs l:List Int} {k:Nat} {n:Int} (hx:l[k]? = some n) (h:¬ (1<=n/\n<=64)):cC xs (l.take k)=cC xs (l.take (k+1)):=by rw [qh hx,if_neg h]
theorem xO {xs l:List Int} {k:Nat} {n:Int} (h:nG xs l):I64 ((cC xs (l.take k)).getD n.toNat (dflt .int)+1):=by
 have h1:=sC (l.take k) xs n.toNat
 have h2:=h n.toNat
 rw [List.length_take] at h1
 show I64 ((cC xs (l.take k)).getD n.toNat 0+1)
 constructor <;> omega
def mW (a:List Snap) (b:List Snap):List (Nat × LI):=[(4,{ σ:=Nat,F:=fun k=>([(0,one (.fz (.nm .snap) (a))),(1,one (.fz (.nm .snap) (b))),(5,one (.int k))],[]),J:=fun k=>k<=a.length/\a.length=b.length/\a.take k=b.take k,μ:=fun k=>a.length - k })]
def Cs (st:State):List (Nat × LI):=[(7,{ σ:=Nat,F:=fun k=>([(1,one (.ptr 0 0)),(2,one (.ptr 1 0)),(3,one (.own 2)),(4,one (.int k))],[.box 26 ([.int ((st.version)),.int ((st.next)),.int ((st.keep)),.int ((st.quota)),.fz (.nm .sess) ((st.sess.take 20)),.fz (.nm .opn) ((st.opens.take 20)),.fz (.nm .snap) ((st.snaps))]),.box 26 ([.int ((0)),.int ((0)),.int ((0)),.int ((0)),.em true,.em true,.em true]),.row 59 (.nm .snap) (((dj st).snaps.take k))]),J:=fun k=>k<=(dj st).snaps.length,μ:=fun k=>st.snaps.length - k })]
def Gq (l:List Int) (xs:List Int):List (Nat × LI):=[(1,{ σ:=Nat,F:=fun k=>([(0,one (.ptr 0 0)),(6,one (.fz .int (l))),(7,one (.int (l).length)),(8,one (.int k))],[.arr 108 .int 65 ((cC xs (l.take k)))]),J:=fun k=>k<=l.length,μ:=fun k=>(l).length - k })]
theorem De (st:State) (c:Command) (r0:Int):cN aI nE [] Tryz.f33 [.agg (cellsOf (.nm .state) st),.agg (cellsOf (.nm .command) c)] [] [.c (.int (r0))]=((fun (q0:Int)=>I64 q0->I64 st.next->I64 st.keep->I64 st.quota->st.sess.length*(32:Nat)<=(140737488355328:Nat)->st.opens.length*(16:Nat)<=(140737488355328:Nat)->st.snaps.length*(64:Nat)<=(140737488355328:Nat)->I64 c.kind->I64 c.client->I64 c.seq->I64 c.set->I64 c.id->I64 c.n->c.chunks.length*(8:Nat)<=(140737488355328:Nat)->c.text.b.length<=(140737488355328:Nat)->I64 (mayF st q0)->(¬mayF st q0=(0:Int)->(1:Int)=r0)/\(mayF st q0=(0:Int)->I64 (bI c q0)->bI c q0=r0)) st.version):=by kernel_rfl
theorem DN (st:State) (c:Command):Sat Tryz.prog (av aI) 33 [.agg (cellsOf (.nm .state) st),.agg (cellsOf (.nm .command) c)] [] ⟨[],[.c (.int ((if mayF st st.version=0 then bI c st.version else 1)))],none,false⟩:=by
 refine aS fJ [] Tryz.func33 (by decide) (by kernel_rfl) ?_
 rw [De]
 grind
theorem sw (a:List Snap) (b:List Snap) (r0:Bool):cN aI nE (mW a b) Tryz.f66 [.c (.fz (.nm .snap) (a)),.c (.fz (.nm .snap) (b))] [] [.c (.bool (.atom (r0)))]=((fun (q3:Nat)=>(fun (q2:Nat)=>(fun (q1:Int)=>(fun (q0:den (Sh.nm NT.snap))=>a.length*(64:Nat)<=q3->b.length*(64:Nat)<=q3->(¬q1=(↑b.length:Int)->false=r0)/\(q1=(↑b.length:Int)->∃ (s0:Nat),(a=a/\b=b/\(0:Int)=(↑s0:Int))/\(s0<=q2/\q2=b.length/\List.take s0 a=List.take s0 b)/\∀ (s:Nat),(fun (q5:den (Sh.nm NT.snap))=>(fun (q4:den (Sh.nm NT.snap))=>s<=q2/\q2=b.length/\List.take s a=List.take s b->((↑s:Int)<q1->(0:Int)<=(↑s:Int)/\(↑s:Int)<q1/\(0:Int)<=(↑s:Int)/\(↑s:Int)<(↑b.length:Int)/\(I64 q4.id->I64 q4.set->q4.chunks.length*(8:Nat)<=q3->q4.tag.b.length<=q3->I64 q5.id->I64 q5.set->q5.chunks.length*(8:Nat)<=q3->q5.tag.b.length<=q3->(decide (q4=q5)=false->false=r0)/\(decide (q4=q5)=true->I64 ((↑s:Int)+(1:Int))/\∃ (s':Nat),(a=a/\b=b/\(↑s:Int)+(1:Int)=(↑s':Int))/\(s' <= q2/\q2=b.length/\List.take s' a=List.take s' b)/\q2 - s' < q2 - s)))/\(q1<=(↑s:Int)->true=r0)) (a.getD s q0)) (b.getD s q0))) (dflt (Sh.nm NT.snap))) (↑a.length:Int)) a.length) (140737488355328:Nat)):=by kernel_rfl
theorem rY (a:List Snap) (b:List Snap):Sat Tryz.prog (av aI) 66 [.c (.fz (.nm .snap) (a)),.c (.fz (.nm .snap) (b))] [] ⟨[],[.c (.bool (.atom ((decide (a=b)))))],none,false⟩:=by
 refine aS fJ (mW a b) Tryz.func66 (by decide) (by kernel_rfl) ?_
 rw [sw]
 (repeat' (first | with_reducible refine And.intro ?_ ?_ | with_reducible refine and_imp.2 ?_ | intro))
 all_goals try (first | (first | with_reducible rfl | with_reducible assumption | omega | (refine ak ?_ ?_ <;> omega)) | exact rfl | exact (si (by with_reducible assumption)) | exact (zD (by with_reducible assumption) (by with_reducible assumption) (by with_reducible assumption) (by omega)) | exact (xQ (by with_reducible assumption) (by omega) (by omega)) | exact (lN (by omega) (by with_reducible assumption) (by omega)))
 all_goals try (refine ⟨0,?_⟩; (repeat' (first | with_reducible refine And.intro ?_ ?_ | with_reducible refine and_imp.2 ?_ | intro)))
 all_goals try (first | (first | with_reducible rfl | with_reducible assumption | omega | (refine ak ?_ ?_ <;> omega)) | exact rfl | exact (si (by with_reducible assumption)) | exact (zD (by with_reducible assumption) (by with_reducible assumption) (by with_reducible assumption) (by omega)) | exact (xQ (by with_reducible assumption) (by omega) (by omega)) | exact (lN (by omega) (by with_reducible assumption) (by omega)))
 all_goals try (refine ⟨‹Nat› + 1,?_⟩; (repeat' (first | with_reducible refine And.intro ?_ ?_ | with_reducible refine and_imp.2 ?_ | intro)))
 all_goals (first | (first | with_reducible rfl | with_reducible assumption | omega | (refine ak ?_ ?_ <;> omega)) | exact rfl | exact (si (by with_reducible assumption)) | exact (zD (by with_reducible assumption) (by with_reducible assumption) (by with_reducible assumption) (by omega)) | exact (xQ (by with_reducible assumption) (by omega) (by omega)) | exact (lN (by omega) (by with_reducible assumption) (by omega)))
theorem CI (st:State) (r0:State):cN aI nE (Cs st) Tryz.f10 [.agg (cellsOf (.nm .state) st)] [] [.agg (cellsOf (.nm .state) r0)]=((fun (q23:Nat)=>(fun (q22:Prop)=>(fun (q21:Prop)=>(fun (q20:Prop)=>(fun (q19:Prop)=>(fun (q18:Int)=>(fun (q17:Nat)=>(fun (q16:Nat)=>(fun (q15:Int)=>(fun (q14:Nat)=>(fun (q13:Int)=>(fun (q12:Int)=>(fun (q11:Nat)=>(fun (q10:Int)=>(fun (q9:Int)=>(fun (q8:Prop)=>(fun (q7:Prop)=>(fun (q6:Prop)=>(fun (q5:Prop)=>(fun (q4:List Snap)=>(fun (q3:List (den (Sh.nm NT.sess)))=>(fun (q2:List (den (Sh.nm NT.opn)))=>(fun (q1:List Snap)=>(fun (q0:Prop)=>I64 st.version->I64 st.next->I64 st.keep->I64 st.quota->q23*(32:Nat)<=q11->st.opens.length*(16:Nat)<=q11->q4.length*q14<=q11->(q13<(↑q23:Int)->q12<=q13/\q13<=(↑q23:Int)/\(q13<q18->q12<=q13/\q13<=q18/\∃ (s0:Nat),(fun (q25:Nat)=>(fun (q24:Nat)=>(q12=(↑s0:Int)/\q5/\q8/\q7/\q6/\q3=q3/\q2=q2/\q4=q4/\q0/\q0/\q0/\q0/\List.take s0 q1=[])/\s0<=q25/\∀ (s:Nat),(fun (q27:List (den (Sh.nm NT.snap)))=>(fun (q26:Int)=>s<=q25->((↑s:Int)<(↑q4.length:Int)/\(↑s:Int)<q13->q12<=(↑s:Int)/\(↑s:Int)<(↑q4.length:Int)/\∀ (x:Snap),(fun (q32:Nat)=>(fun (q31:Snap)=>(fun (q30:Snap)=>(fun (q29:Snap)=>(fun (q28:Int)=>q4[s]? = some x->I64 x.id->I64 x.set->q32*(8:Nat)<=q11->x.tag.b.length<=q11->(q15<(↑q32:Int)->q12<=q15/\q15<=(↑q32:Int)/\(q10<q28->q12<=q10/\q10<=q28/\(q27.length+[q29].length)*q14<=q11/\I64 q26/\∃ (s':Nat),(q26=(↑s':Int)/\q5/\q8/\q7/\q6/\q3=q3/\q2=q2/\q4=q4/\q0/\q0/\q0/\q0/\q27++[q29]=List.take s' q1)/\s' <= q25/\q24 - s' < q24 - s)/\(q28<=q10->(q27.length+[q31].length)*q14<=q11/\I64 q26/\∃ (s':Nat),(q26=(↑s':Int)/\q5/\q8/\q7/\q6/\q3=q3/\q2=q2/\q4=q4/\q0/\q0/\q0/\q0/\q27++[q31]=List.take s' q1)/\s' <= q25/\q24 - s' < q24 - s))/\((↑q32:Int)<=q15->(q10<q28->q12<=q10/\q10<=q28/\(q27.length+[q30].length)*q14<=q11/\I64 q26/\∃ (s':Nat),(q26=(↑s':Int)/\q5/\q8/\q7/\q6/\q3=q3/\q2=q2/\q4=q4/\q0/\q0/\q0/\q0/\q27++[q30]=List.take s' q1)/\s' <= q25/\q24 - s' < q24 - s)/\(q28<=q10->(q27.length+[x].length)*q14<=q11/\I64 q26/\∃ (s':Nat),(q26=(↑s':Int)/\q5/\q8/\q7/\q6/\q3=q3/\q2=q2/\q4=q4/\q0/\q0/\q0/\q0/\q27++[x]=List.take s' q1)/\s' <= q25/\q24 - s' < q24 - s))) (↑x.tag.b.length:Int)) (Snap.mk x.id x.set (List.take q16 x.chunks) x.held (Str.mk (List.take q17 x.tag.b)))) (Snap.mk x.id x.set x.chunks x.held (Str.mk (List.take q17 x.tag.b)))) (Snap.mk x.id x.set (List.take q16 x.chunks) x.held x.tag)) x.chunks.length)/\((↑q4.length:Int)<=(↑s:Int)\/q13<=(↑s:Int)->q19/\q22/\q21/\q20/\q3=r0.sess/\q2=r0.opens/\q27=r0.snaps)) ((↑s:Int)+q9)) (List.take s q1)) q4.length) q1.length)/\(q18<=q13->∃ (s0:Nat),(fun (q34:Nat)=>(fun (q33:Nat)=>(q12=(↑s0:Int)/\q5/\q8/\q7/\q6/\q3=q3/\st.opens=q2/\q4=q4/\q0/\q0/\q0/\q0/\List.take s0 q1=[])/\s0<=q34/\∀ (s:Nat),(fun (q36:List (den (Sh.nm NT.snap)))=>(fun (q35:Int)=>s<=q34->((↑s:Int)<(↑q4.length:Int)/\(↑s:Int)<q13->q12<=(↑s:Int)/\(↑s:Int)<(↑q4.length:Int)/\∀ (x:Snap),(fun (q41:Nat)=>(fun (q40:Snap)=>(fun (q39:Snap)=>(fun (q38:Snap)=>(fun (q37:Int)=>q4[s]? = some x->I64 x.id->I64 x.set->q41*(8:Nat)<=q11->x.tag.b.length<=q11->(q15<(↑q41:Int)->q12<=q15/\q15<=(↑q41:Int)/\(q10<q37->q12<=q10/\q10<=q37/\(q36.length+[q38].length)*q14<=q11/\I64 q35/\∃ (s':Nat),(q35=(↑s':Int)/\q5/\q8/\q7/\q6/\q3=q3/\q2=q2/\q4=q4/\q0/\q0/\q0/\q0/\q36++[q38]=List.take s' q1)/\s' <= q34/\q33 - s' < q33 - s)/\(q37<=q10->(q36.length+[q40].length)*q14<=q11/\I64 q35/\∃ (s':Nat),(q35=(↑s':Int)/\q5/\q8/\q7/\q6/\q3=q3/\q2=q2/\q4=q4/\q0/\q0/\q0/\q0/\q36++[q40]=List.take s' q1)/\s' <= q34/\q33 - s' < q33 - s))/\((↑q41:Int)<=q15->(q10<q37->q12<=q10/\q10<=q37/\(q36.length+[q39].length)*q14<=q11/\I64 q35/\∃ (s':Nat),(q35=(↑s':Int)/\q5/\q8/\q7/\q6/\q3=q3/\q2=q2/\q4=q4/\q0/\q0/\q0/\q0/\q36++[q39]=List.take s' q1)/\s' <= q34/\q33 - s' < q33 - s)/\(q37<=q10->(q36.length+[x].length)*q14<=q11/\I64 q35/\∃ (s':Nat),(q35=(↑s':Int)/\q5/\q8/\q7/\q6/\q3=q3/\q2=q2/\q4=q4/\q0/\q0/\q0/\q0/\q36++[x]=List.take s' q1)/\s' <= q34/\q33 - s' < q33 - s))) (↑x.tag.b.length:Int)) (Snap.mk x.id x.set (List.take q16 x.chunks) x.held (Str.mk (List.take q17 x.tag.b)))) (Snap.mk x.id x.set x.chunks x.held (Str.mk (List.take q17 x.tag.b)))) (Snap.mk x.id x.set (List.take q16 x.chunks) x.held x.tag)) x.chunks.length)/\((↑q4.length:Int)<=(↑s:Int)\/q13<=(↑s:Int)->q19/\q22/\q21/\q20/\q3=r0.sess/\q2=r0.opens/\q36=r0.snaps)) ((↑s:Int)+q9)) (List.take s q1)) q4.length) q1.length))/\((↑q23:Int)<=q13->(q13<q18->q12<=q13/\q13<=q18/\∃ (s0:Nat),(fun (q43:Nat)=>(fun (q42:Nat)=>(q12=(↑s0:Int)/\q5/\q8/\q7/\q6/\st.sess=q3/\q2=q2/\q4=q4/\q0/\q0/\q0/\q0/\List.take s0 q1=[])/\s0<=q43/\∀ (s:Nat),(fun (q45:List (den (Sh.nm NT.snap)))=>(fun (q44:Int)=>s<=q43->((↑s:Int)<(↑q4.length:Int)/\(↑s:Int)<q13->q12<=(↑s:Int)/\(↑s:Int)<(↑q4.length:Int)/\∀ (x:Snap),(fun (q50:Nat)=>(fun (q49:Snap)=>(fun (q48:Snap)=>(fun (q47:Snap)=>(fun (q46:Int)=>q4[s]? = some x->I64 x.id->I64 x.set->q50*(8:Nat)<=q11->x.tag.b.length<=q11->(q15<(↑q50:Int)->q12<=q15/\q15<=(↑q50:Int)/\(q10<q46->q12<=q10/\q10<=q46/\(q45.length+[q47].length)*q14<=q11/\I64 q44/\∃ (s':Nat),(q44=(↑s':Int)/\q5/\q8/\q7/\q6/\q3=q3/\q2=q2/\q4=q4/\q0/\q0/\q0/\q0/\q45++[q47]=List.take s' q1)/\s' <= q43/\q42 - s' < q42 - s)/\(q46<=q10->(q45.length+[q49].length)*q14<=q11/\I64 q44/\∃ (s':Nat),(q44=(↑s':Int)/\q5/\q8/\q7/\q6/\q3=q3/\q2=q2/\q4=q4/\q0/\q0/\q0/\q0/\q45++[q49]=List.take s' q1)/\s' <= q43/\q42 - s' < q42 - s))/\((↑q50:Int)<=q15->(q10<q46->q12<=q10/\q10<=q46/\(q45.length+[q48].length)*q14<=q11/\I64 q44/\∃ (s':Nat),(q44=(↑s':Int)/\q5/\q8/\q7/\q6/\q3=q3/\q2=q2/\q4=q4/\q0/\q0/\q0/\q0/\q45++[q48]=List.take s' q1)/\s' <= q43/\q42 - s' < q42 - s)/\(q46<=q10->(q45.length+[x].length)*q14<=q11/\I64 q44/\∃ (s':Nat),(q44=(↑s':Int)/\q5/\q8/\q7/\q6/\q3=q3/\q2=q2/\q4=q4/\q0/\q0/\q0/\q0/\q45++[x]=List.take s' q1)/\s' <= q43/\q42 - s' < q42 - s))) (↑x.tag.b.length:Int)) (Snap.mk x.id x.set (List.take q16 x.chunks) x.held (Str.mk (List.take q17 x.tag.b)))) (Snap.mk x.id x.set x.chunks x.held (Str.mk (List.take q17 x.tag.b)))) (Snap.mk x.id x.set (List.take q16 x.chunks) x.held x.tag)) x.chunks.length)/\((↑q4.length:Int)<=(↑s:Int)\/q13<=(↑s:Int)->q19/\q22/\q21/\q20/\q3=r0.sess/\q2=r0.opens/\q45=r0.snaps)) ((↑s:Int)+q9)) (List.take s q1)) q4.length) q1.length)/\(q18<=q13->∃ (s0:Nat),(fun (q52:Nat)=>(fun (q51:Nat)=>(q12=(↑s0:Int)/\q5/\q8/\q7/\q6/\st.sess=q3/\st.opens=q2/\q4=q4/\q0/\q0/\q0/\q0/\List.take s0 q1=[])/\s0<=q52/\∀ (s:Nat),(fun (q54:List (den (Sh.nm NT.snap)))=>(fun (q53:Int)=>s<=q52->((↑s:Int)<(↑q4.length:Int)/\(↑s:Int)<q13->q12<=(↑s:Int)/\(↑s:Int)<(↑q4.length:Int)/\∀ (x:Snap),(fun (q59:Nat)=>(fun (q58:Snap)=>(fun (q57:Snap)=>(fun (q56:Snap)=>(fun (q55:Int)=>q4[s]? = some x->I64 x.id->I64 x.set->q59*(8:Nat)<=q11->x.tag.b.length<=q11->(q15<(↑q59:Int)->q12<=q15/\q15<=(↑q59:Int)/\(q10<q55->q12<=q10/\q10<=q55/\(q54.length+[q56].length)*q14<=q11/\I64 q53/\∃ (s':Nat),(q53=(↑s':Int)/\q5/\q8/\q7/\q6/\q3=q3/\q2=q2/\q4=q4/\q0/\q0/\q0/\q0/\q54++[q56]=List.take s' q1)/\s' <= q52/\q51 - s' < q51 - s)/\(q55<=q10->(q54.length+[q58].length)*q14<=q11/\I64 q53/\∃ (s':Nat),(q53=(↑s':Int)/\q5/\q8/\q7/\q6/\q3=q3/\q2=q2/\q4=q4/\q0/\q0/\q0/\q0/\q54++[q58]=List.take s' q1)/\s' <= q52/\q51 - s' < q51 - s))/\((↑q59:Int)<=q15->(q10<q55->q12<=q10/\q10<=q55/\(q54.length+[q57].length)*q14<=q11/\I64 q53/\∃ (s':Nat),(q53=(↑s':Int)/\q5/\q8/\q7/\q6/\q3=q3/\q2=q2/\q4=q4/\q0/\q0/\q0/\q0/\q54++[q57]=List.take s' q1)/\s' <= q52/\q51 - s' < q51 - s)/\(q55<=q10->(q54.length+[x].length)*q14<=q11/\I64 q53/\∃ (s':Nat),(q53=(↑s':Int)/\q5/\q8/\q7/\q6/\q3=q3/\q2=q2/\q4=q4/\q0/\q0/\q0/\q0/\q54++[x]=List.take s' q1)/\s' <= q52/\q51 - s' < q51 - s))) (↑x.tag.b.length:Int)) (Snap.mk x.id x.set (List.take q16 x.chunks) x.held (Str.mk (List.take q17 x.tag.b)))) (Snap.mk x.id x.set x.chunks x.held (Str.mk (List.take q17 x.tag.b)))) (Snap.mk x.id x.set (List.take q16 x.chunks) x.held x.tag)) x.chunks.length)/\((↑q4.length:Int)<=(↑s:Int)\/q13<=(↑s:Int)->q19/\q22/\q21/\q20/\q3=r0.sess/\q2=r0.opens/\q54=r0.snaps)) ((↑s:Int)+q9)) (List.take s q1)) q4.length) q1.length))) (q12=q12)) (dj st).snaps) (List.take (20:Nat) st.opens)) (List.take (20:Nat) st.sess)) st.snaps) (st.version=st.version)) (st.quota=st.quota)) (st.keep=st.keep)) (st.next=st.next)) (1:Int)) (40:Int)) (140737488355328:Nat)) (0:Int)) (20:Int)) (64:Nat)) (12:Int)) (12:Nat)) (40:Nat)) (↑st.opens.length:Int)) (st.version=r0.version)) (st.quota=r0.quota)) (st.keep=r0.keep)) (st.next=r0.next)) st.sess.length):=by kernel_rfl
theorem DE (st:State):Sat Tryz.prog (av aI) 10 [.agg (cellsOf (.nm .state) st)] [] ⟨[],[.agg (cellsOf (.nm .state) (dj st))],none,false⟩:=by
 refine aS fJ (Cs st) Tryz.func10 (by decide) (by kernel_rfl) ?_
 rw [CI]
 (repeat' (first | with_reducible refine And.intro ?_ ?_ | with_reducible refine and_imp.2 ?_ | intro))
 all_goals try (first | (first | with_reducible rfl | with_reducible assumption | omega | (refine ak ?_ ?_ <;> omega)) | exact rfl | exact (List.take_of_length_le (by omega)).symm | exact (Ed (by with_reducible assumption) (by omega) (by omega) (by omega)) | exact (Ev (by with_reducible assumption) (by omega) (by omega) (by omega)) | exact (Em (by with_reducible assumption) (by omega) (by omega) (by omega)) | exact (Ek (by with_reducible assumption) (by omega) (by omega) (by omega)) | exact (su (by omega)) | exact (wO (by omega) (by omega)) | exact (List.take_of_length_le (yu (by omega))))
 all_goals try (refine ⟨0,?_⟩; (repeat' (first | with_reducible refine And.intro ?_ ?_ | with_reducible refine and_imp.2 ?_ | intro)))
 all_goals try (first | (first | with_reducible rfl | with_reducible assumption | omega | (refine ak ?_ ?_ <;> omega)) | exact rfl | exact (List.take_of_length_le (by omega)).symm | exact (Ed (by with_reducible assumption) (by omega) (by omega) (by omega)) | exact (Ev (by with_reducible assumption) (by omega) (by omega) (by omega)) | exact (Em (by with_reducible assumption) (by omega) (by omega) (by omega)) | exact (Ek (by with_reducible assumption) (by omega) (by omega) (by omega)) | exact (su (by omega)) | exact (wO (by omega) (by omega)) | exact (List.take_of_length_le (yu (by omega))))
 all_goals try (refine ⟨‹Nat› + 1,?_⟩; (repeat' (first | with_reducible refine And.intro ?_ ?_ | with_reducible refine and_imp.2 ?_ | intro)))
 all_goals (first | (first | with_reducible rfl | with_reducible assumption | omega | (refine ak ?_ ?_ <;> omega)) | exact rfl | exact (List.take_of_length_le (by omega)).symm | exact (Ed (by with_reducible assumption) (by omega) (by omega) (by omega)) | exact (Ev (by with_reducible assumption) (by omega) (by omega) (by omega)) | exact (Em (by with_reducible assumption) (by omega) (by omega) (by omega)) | exact (Ek (by with_reducible assumption) (by omega) (by omega) (by omega)) | exact (su (by omega)) | exact (wO (by omega) (by omega)) | exact (List.take_of_length_le (yu (by omega))))
theorem FD (l:List Int) (xs:List Int) (r0:List Int):nA aI nE (Gq l xs) Tryz.f126 [.c (.ptr 0 0),.c (.fz .int (l))] [.arr 108 .int 65 (xs)] [] [.arr 108 .int 65 (r0)]=((fun (q1:Int)=>(fun (q0:Nat)=>l.length*(8:Nat)<=(140737488355328:Nat)->∃ (s0:Nat),(fun (q2:Int)=>(l=l/\(↑l.length:Int)=q2/\(0:Int)=(↑s0:Int)/\xs=cC xs (List.take s0 l))/\s0<=q0/\∀ (s:Nat),(fun (q4:Int)=>(fun (q3:List Int)=>s<=q0->((↑s:Int)<q2->(0:Int)<=(↑s:Int)/\(↑s:Int)<(↑l.length:Int)/\∀ (x:Int),(fun (q5:den Sh.int)=>l[s]? = some x->I64 x->(q1<=x/\x<=(64:Int)->(0:Int)<=x/\x<(↑(65:Nat):Int)/\x.toNat<(65:Nat)/\I64 (q5+q1)/\(0:Int)<=x/\x<(↑(65:Nat):Int)/\(I64 q5->x.toNat<(65:Nat)/\I64 q4/\∃ (s':Nat),(l=l/\q2=q2/\q4=(↑s':Int)/\q3.set x.toNat (q5+q1)=cC xs (List.take s' l))/\s' <= q0/\q0 - s' < q0 - s))/\(x<q1\/(64:Int)<x->I64 q4/\∃ (s':Nat),(l=l/\q2=q2/\q4=(↑s':Int)/\q3=cC xs (List.take s' l))/\s' <= q0/\q0 - s' < q0 - s)) (q3.getD x.toNat (dflt Sh.int)))/\(q2<=(↑s:Int)->q3=r0)) (cC xs (List.take s l))) ((↑s:Int)+q1)) (↑q0:Int)) l.length) (1:Int)):=by kernel_rfl
theorem Fw (l:List Int) (xs:List Int) (h0:nG xs l):Sat Tryz.prog (av aI) 126 [.c (.ptr 0 0),.c (.fz .int (l))] [.arr 108 .int 65 (xs)] ⟨[nG xs l],[],some ([.arr 108 .int 65 ((cC xs l))]),false⟩:=by
 refine dr fJ (Gq l xs) Tryz.func126 (by decide) (by kernel_rfl) ?_
 rw [FD]
 (repeat' (first | with_reducible refine And.intro ?_ ?_ | with_reducible refine and_imp.2 ?_ | intro))
 all_goals try (first | (first | with_reducible rfl | with_reducible assumption | omega | (refine ak ?_ ?_ <;> omega)) | exact rfl | exact (wQ (by with_reducible assumption) (by constructor <;> omega)) | exact (xB (by with_reducible assumption) (by omega)) | exact (by rw [List.take_of_length_le (by omega)]) | exact (xO (by with_reducible assumption)))
 all_goals try (refine ⟨0,?_⟩; (repeat' (first | with_reducible refine And.intro ?_ ?_ | with_reducible refine and_imp.2 ?_ | intro)))
 all_goals try (first | (first | with_reducible rfl | with_reducible assumption | omega | (refine ak ?_ ?_ <;> omega)) | exact rfl | exact (wQ (by with_reducible assumption) (by constructor <;> omega)) | exact (xB (by with_reducible assumption) (by omega)) | exact (by rw [List.take_of_length_le (by omega)]) | exact (xO (by with_reducible assumption)))
 all_goals try (refine ⟨‹Nat› + 1,?_⟩; (repeat' (first | with_reducible refine And.intro ?_ ?_ | with_reducible refine and_imp.2 ?_ | intro)))
 all_goals (first | (first | with_reducible rfl | with_reducible assumption | omega | (refine ak ?_ ?_ <;> omega)) | exact rfl | exact (wQ (by with_reducible assumption) (by constructor <;> omega)) | exact (xB (by with_reducible assumption) (by omega)) | exact (by rw [List.take_of_length_le (by omega)]) | exact (xO (by with_reducible assumption)))
def wG:cR:=(bO 126 (bL (ai (kC (bN 0 0)) (ai (kC (cL .int)) aO)) (ax (nK 108 .int 65) aP) fun (_,l,_) (xs,_)=>⟨[nG xs l],[],some ([.arr 108 .int 65 ((cC xs l))]),false⟩) (bO 10 (bL (ai (kT (.nm .state)) aO) aP fun (st,_) (_)=>⟨[],[.agg (cellsOf (.nm .state) (dj st))],none,false⟩) (bO 66 (bL (ai (kC (cL (.nm .snap))) (ai (kC (cL (.nm .snap))) aO)) aP fun (a,b,_) (_)=>⟨[],[.c (.bool (.atom ((decide (a=b)))))],none,false⟩) (bO 33 (bL (ai (kT (.nm .state)) (ai (kT (.nm .command)) aO)) aP fun (st,c,_) (_)=>⟨[],[.c (.int ((if mayF st st.version=0 then bI c st.version else 1)))],none,false⟩) nE))))
theorem pO:bf Tryz.prog (av aI) wG:=(aA (az (ab (aq aJ) (ab (aq bS) al)) (ag fb ao) fun (_,l,_) (xs,_) hp=>Fw l xs (eP hp)) (aA (az (ab bD al) ao fun (st,_) (_) _=>DE st ) (aA (az (ab (aq bS) (ab (aq bS) al)) ao fun (a,b,_) (_) _=>rY a b ) (aA (az (ab bD (ab bD al)) ao fun (st,c,_) (_) _=>DN st c ) fJ))))
end Go.Proofs.YtdggohppeeaipaaGreat
