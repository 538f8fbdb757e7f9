/- What leads to the law, part 4. Conditions: each lemma's own. -/
import Derived.Test.YtmmbibcfkdabeaaKAM3
set_option linter.unusedVariables false
set_option linter.unusedSimpArgs false
namespace Go.Proofs.Ytmmbibcfkdabeaa
open Go.RowKit
theorem lj (z:Array Value) (n:Nat):(Builtin.zeroCells z n).toList.length=n*z.size:=by rw [Array.length_toList,size_zeroCells]
theorem aW {w:World} {g:Nat} {o:Obj} (h:w.heap[g]? = some o):g<w.heap.size:=(Array.getElem?_eq_some_iff.1 h).1
theorem bZ:(Try.prog.info? 42).map (·.size)=some 4:=by kernel_rfl
theorem yO:(Try.prog.info? 42).map (fun i=>(i.zero,i.size,i.bytes))=some (some (.agg #[.int .i64 0,.int .i64 0,.int .i64 0,.int .i64 0]),4,32):=by kernel_rfl
set_option maxRecDepth 100000 in
set_option maxHeartbeats 1000000 in
theorem pU {w:World} {n c vc:Nat} {A:Option Addr} {B:Option Addr} {φ:Value->World->Prop} (happ:∀ (F:Fr) (x y:Operand) (ty:TypeId),ev F x=some (.slice A n c)->ev F y=some (.slice B 1 vc)->∃ v2 w2,aM Try.prog 95 F w (.call { callee:=.builtin .append,args:=#[x,y],argTypes:=#[22,22] }) ty v2 w2/\φ v2 w2) :
  gE Try.prog 31 [.slice A n c,.int .i64 (n:Int),.slice B 1 vc].toArray w φ:=by
 refine gE.enter Try.func31 rfl rfl rfl rfl ?_
 refine WC.seq ?_
 refine WC.region ?_
 refine WO.v (R.assign rfl) rfl ?_
 refine WO.nil ?_
 refine WX.next ?_
 refine WC.seq ?_
 refine WC.region ?_
 refine WO.v (R.move rfl) rfl ?_
 refine WO.v (R.move rfl) rfl ?_
 refine WO.v (R.bW rfl rfl Try.underlying22 bZ rfl (by omega)) rfl ?_
 refine WO.nil ?_
 refine WX.next ?_
 refine WC.seq ?_
 refine WC.region ?_
 refine WO.v (R.move rfl) rfl ?_
 refine WO.v (R.len rfl Try.underlying22) rfl ?_
 refine WO.v (R.assign rfl) rfl ?_
 refine WO.nil ?_
 refine WX.next ?_
 refine WC.seq ?_
 refine WC.seq ?_
 refine WC.region ?_
 refine WO.v (R.move rfl) rfl ?_
 refine WO.v (R.eql rfl rfl) rfl ?_
 refine WO.nil ?_
 refine WX.next ?_
 refine WC.cond rfl (fun q=>absurd (of_decide_eq_true q) (by omega)) (fun _=>?_)
 refine WC.skip ?_
 refine WX.next ?_
 refine WC.seq ?_
 refine WC.region ?_
 refine WO.v (R.move rfl) rfl ?_
 refine WO.v (R.len rfl Try.underlying22) rfl ?_
 refine WO.v (R.assign rfl) rfl ?_
 refine WO.nil ?_
 refine WX.next ?_
 refine WC.seq ?_
 refine WC.seq ?_
 refine WC.region ?_
 refine WO.v (R.move rfl) rfl ?_
 refine WO.v (R.move rfl) rfl ?_
 refine WO.v (R.eql rfl rfl) rfl ?_
 refine WO.nil ?_
 refine WX.next ?_
 refine WC.cond rfl (fun _=>?_) (fun q=>absurd rfl (of_decide_eq_false q))
 refine WC.seq ?_
 refine WC.region ?_
 refine WO.v (R.move rfl) rfl ?_
 refine WO.v (R.move rfl) rfl ?_
 refine WO.ve (happ _ _ _ _ rfl rfl) rfl fun v2 w2 hv2=>?_
 refine WO.v (R.assign rfl) rfl ?_
 refine WO.nil ?_
 refine WX.next ?_
 refine WC.ret ?_
 refine WX.gj ?_
 refine WX.rZ rfl rfl ?_
 exact hv2
set_option maxRecDepth 100000 in
set_option maxHeartbeats 1000000 in
theorem ot {w W1:World} {g b n i c vc G:Nat} {ad:Addr} {cur vs ds:List Value} (hi:i<n) (hnc:n<=c) (hc:c<n+1) (hcm:c<=maxLen) (hG:n+1<=G) (hGm:G<=maxLen)
  (happ:∀ (F:Fr) (x y:Operand) (ty:TypeId),ev F x=some (.slice (some ⟨g,0*4,none⟩) i c)->ev F y=some (.int .i64 ((n+1 - i:Nat):Int))->aM Try.prog 95 F w (.call { callee:=.builtin .append,args:=#[x,y],argTypes:=#[22,3] }) ty (.slice (some ⟨b,0,none⟩) (n+1) G) W1)
  (hrow:W1.heap[b]? = some (.cells cur.toArray 42 (0,0))) (hcur:(n+1)*4<=cur.length) (hv:CellsAt W1 ad vs) (hvl:vs.length=4) (hd:CellsAt W1 ⟨g,i*4,none⟩ ds) (hgb:g≠b) (hgl:g<W1.heap.size) (hdl:ds.length=(n - i)*4)
  (h1v:∀ u ∈ vs,u.oneCell' = true) (h1d:∀ u ∈ ds,u.oneCell' = true) :
  gE Try.prog 31 [.slice (some ⟨g,0,none⟩) n c,.int .i64 (i:Int),.slice (some ad) 1 vc].toArray w fun v w'=>v = .slice (some ⟨b,0,none⟩) (n+1) G/\∃ w1,Kp [] (W1.setRow b (cur.take (i*4)++vs++cur.drop (i*4+vs.length)).toArray) w1/\w' = w1.setRow b ((cur.take (i*4)++vs++cur.drop (i*4+vs.length)).take ((i+1)*4)++ds++(cur.take (i*4)++vs++cur.drop (i*4+vs.length)).drop ((i+1)*4+ds.length)).toArray:=by
 have hGm:G<=9223372036854775807:=hGm
 have hcm:c<=9223372036854775807:=hcm
 have hn1:vs.length=Nat.min 1 (n+1 - i)*4:=by rw [show Nat.min 1 (n+1 - i)=1 from Nat.min_eq_left (by omega),Nat.one_mul]; exact hvl
 have hn2:ds.length=Nat.min (n - i) (n+1 - (i+1))*4:=by rw [show Nat.min (n - i) (n+1 - (i+1))=n - i from Nat.min_eq_left (by omega)]; exact hdl
 refine gE.enter Try.func31 rfl rfl rfl rfl ?_
 refine WC.seq ?_
 refine WC.region ?_
 refine WO.v (R.assign rfl) rfl ?_
 refine WO.nil ?_
 refine WX.next ?_
 refine WC.seq ?_
 refine WC.region ?_
 refine WO.v (R.move rfl) rfl ?_
 refine WO.v (R.move rfl) rfl ?_
 refine WO.v (R.bW rfl rfl Try.underlying22 bZ rfl (by omega)) rfl ?_
 refine WO.nil ?_
 refine WX.next ?_
 refine WC.seq ?_
 refine WC.region ?_
 refine WO.v (R.move rfl) rfl ?_
 refine WO.v (R.len rfl Try.underlying22) rfl ?_
 refine WO.v (R.assign rfl) rfl ?_
 refine WO.nil ?_
 refine WX.next ?_
 refine WC.seq ?_
 refine WC.seq ?_
 refine WC.region ?_
 refine WO.v (R.move rfl) rfl ?_
 refine WO.v (R.eql rfl rfl) rfl ?_
 refine WO.nil ?_
 refine WX.next ?_
 refine WC.cond rfl (fun q=>absurd (of_decide_eq_true q) (by omega)) (fun _=>?_)
 refine WC.skip ?_
 refine WX.next ?_
 refine WC.seq ?_
 refine WC.region ?_
 refine WO.v (R.move rfl) rfl ?_
 refine WO.v (R.len rfl Try.underlying22) rfl ?_
 refine WO.v (R.assign rfl) rfl ?_
 refine WO.nil ?_
 refine WX.next ?_
 refine WC.seq ?_
 refine WC.seq ?_
 refine WC.region ?_
 refine WO.v (R.move rfl) rfl ?_
 refine WO.v (R.move rfl) rfl ?_
 refine WO.v (R.eql rfl rfl) rfl ?_
 refine WO.nil ?_
 refine WX.next ?_
 refine WC.cond rfl (fun q=>absurd (of_decide_eq_true q) (by omega)) (fun _=>?_)
 refine WC.skip ?_
 refine WX.next ?_
 refine WC.seq ?_
 refine WC.seq ?_
 refine WC.region ?_
 refine WO.v (R.move rfl) rfl ?_
 refine WO.v (R.move rfl) rfl ?_
 refine WO.v (R.iv rfl rfl (by omega)) rfl ?_
 refine WO.v (R.move rfl) rfl ?_
 refine WO.v (R.Bx rfl Try.underlying22) rfl ?_
 refine WO.v (R.gtr rfl rfl) rfl ?_
 refine WO.nil ?_
 refine WX.next ?_
 refine WC.cond rfl (fun _=>?_) (fun q=>absurd (by omega) (of_decide_eq_false q))
 refine WC.seq ?_
 refine WC.region ?_
 refine WO.v (R.move rfl) rfl ?_
 refine WO.v (R.move rfl) rfl ?_
 refine WO.v (R.jb rfl rfl Try.underlying22 bZ (db (i:=0) (by omega)) (by omega)) rfl ?_
 refine WO.v (R.move rfl) rfl ?_
 refine WO.v (R.move rfl) rfl ?_
 refine WO.v (R.iv rfl rfl (by omega)) rfl ?_
 refine WO.v (R.move rfl) rfl ?_
 refine WO.v (R.Fx rfl rfl (by omega) (by omega)) rfl ?_
 refine WO.v (happ _ _ _ _ rfl rfl) rfl ?_
 refine WO.v (R.assign rfl) rfl ?_
 refine WO.nil ?_
 refine WX.next ?_
 refine WC.seq ?_
 refine WC.region ?_
 refine WO.v (R.move rfl) rfl ?_
 refine WO.v (R.move rfl) rfl ?_
 refine WO.v (R.bW rfl rfl Try.underlying22 bZ (db (by omega)) (by omega)) rfl ?_
 refine WO.v (R.move rfl) rfl ?_
 refine WO.v (R.jN rfl rfl Try.underlying22 bZ hrow hn1 hv (by omega) h1v) rfl ?_
 refine WO.nil ?_
 refine WX.next ?_
 refine WC.seq ?_
 refine WC.nL fN [.ex [] (.slice (some ⟨b,0,none⟩) (n+1) G),.ex [] (.int .i64 ((i:Nat):Int)),.ex [] (.int .i64 ((1:Nat):Int)),.ex [1,2] (.int .i64 ((i+1:Nat):Int)),.ex [0,3] (.slice (some ⟨b,(i+1)*4,none⟩) (n+1 - (i+1)) (G - (i+1))),.ex [] (.slice (some ⟨g,0,none⟩) n c),.ex [] (.int .i64 ((i:Nat):Int)),.ex [5,6] (.slice (some ⟨g,i*4,none⟩) (n - i) (c - i))] 8 (by kernel_rfl) ⟨fun _ _ _ h _=>h,fun _ _ _ h _=>h,fun _ _ _ h _=>h,fun _ _ _ h _=>h,fun _ _ _ h _=>h,fun _ _ _ h _=>h,fun _ _ _ h _=>h,fun _ _ _ h _=>h,trivial⟩ ⟨?_,?_,?_,?_,?_,?_,?_,?_,trivial⟩ ?_
 ·rintro vs wd kd ⟨-⟩
  refine WO.bm (fr':=[(9,.slice (some ⟨b,0,none⟩) (n+1) G)]) ⟨⟨_,rfl,rfl⟩,trivial⟩ ?_
  refine WO.v (R.move rfl) rfl ?_
  refine WO.nil ?_
  exact WX.aI rfl rfl (Kp.refl _)
 ·rintro vs wd kd ⟨-⟩
  refine WO.bm (fr':=[(1,.int .i64 ((i:Nat):Int))]) ⟨⟨_,rfl,rfl⟩,trivial⟩ ?_
  refine WO.v (R.move rfl) rfl ?_
  refine WO.nil ?_
  exact WX.aI rfl rfl (Kp.refl _)
 ·rintro vs wd kd ⟨-⟩
  refine WO.bm (fr':=[(7,.int .i64 ((1:Nat):Int))]) ⟨⟨_,rfl,rfl⟩,trivial⟩ ?_
  refine WO.v (R.move rfl) rfl ?_
  refine WO.nil ?_
  exact WX.aI rfl rfl (Kp.refl _)
 ·rintro vs wd kd ⟨e1,e2,-⟩
  refine WO.bm (fr':=[(47,.int .i64 ((i:Nat):Int)),(48,.int .i64 ((1:Nat):Int))]) ⟨⟨_,rfl,e1⟩,⟨_,rfl,e2⟩,trivial⟩ ?_
  refine WO.v (R.iv rfl rfl (by omega)) rfl ?_
  refine WO.nil ?_
  exact WX.aI rfl rfl (Kp.refl _)
 ·rintro vs wd kd ⟨e0,e3,-⟩
  refine WO.bm (fr':=[(46,.slice (some ⟨b,0,none⟩) (n+1) G),(49,.int .i64 ((i+1:Nat):Int))]) ⟨⟨_,rfl,e0⟩,⟨_,rfl,e3⟩,trivial⟩ ?_
  refine WO.v (R.bW rfl rfl Try.underlying22 bZ (db (by omega)) (by omega)) rfl ?_
  refine WO.nil ?_
  exact WX.aI rfl rfl (Kp.refl _)
 ·rintro vs wd kd ⟨-⟩
  refine WO.bm (fr':=[(0,.slice (some ⟨g,0,none⟩) n c)]) ⟨⟨_,rfl,rfl⟩,trivial⟩ ?_
  refine WO.v (R.move rfl) rfl ?_
  refine WO.nil ?_
  exact WX.aI rfl rfl (Kp.refl _)
 ·rintro vs wd kd ⟨-⟩
  refine WO.bm (fr':=[(1,.int .i64 ((i:Nat):Int))]) ⟨⟨_,rfl,rfl⟩,trivial⟩ ?_
  refine WO.v (R.move rfl) rfl ?_
  refine WO.nil ?_
  exact WX.aI rfl rfl (Kp.refl _)
 ·rintro vs wd kd ⟨e5,e6,-⟩
  refine WO.bm (fr':=[(51,.slice (some ⟨g,0,none⟩) n c),(52,.int .i64 ((i:Nat):Int))]) ⟨⟨_,rfl,e5⟩,⟨_,rfl,e6⟩,trivial⟩ ?_
  refine WO.v (R.bW rfl rfl Try.underlying22 bZ (db (by omega)) (by omega)) rfl ?_
  refine WO.nil ?_
  exact WX.aI rfl rfl (Kp.refl _)
 rintro vsx w1 k1 ⟨-,-,-,-,e4,-,-,e7,-⟩
 replace k1:Kp [] (W1.setRow b (cur.take (i*4)++vs++cur.drop (i*4+vs.length)).toArray) w1:=k1
 refine WO.bm (fr':=[(50,.slice (some ⟨b,(i+1)*4,none⟩) (n+1 - (i+1)) (G - (i+1))),(53,.slice (some ⟨g,i*4,none⟩) (n - i) (c - i)),(9,.slice (some ⟨b,0,none⟩) (n+1) G)]) ⟨⟨_,rfl,e4⟩,⟨_,rfl,e7⟩,⟨_,rfl,rfl⟩,trivial⟩ ?_
 have hb2:w1.heap[b]? = some (.cells (List.toArray (cur.take (i*4)++vs++cur.drop (i*4+vs.length))) 42 (0,0)):=by rw [k1.block b (by simpa using aW hrow) (by simp)]; exact setRow_heap W1 b _ _ 42 _ hrow
 have hd2:CellsAt w1 ⟨g,i*4,none⟩ ds:=(hd.kp (Kp.setRow W1 b _) hgl (by simpa using hgb.symm)).kp k1 (by simpa using hgl) (by simp)
 refine WO.v (R.jN rfl rfl Try.underlying22 bZ hb2 hn2 hd2 (by simp only [List.length_append,List.length_take,List.length_drop]; omega) h1d) rfl ?_
 refine WO.nil ?_
 refine WX.next ?_
 refine WC.seq ?_
 refine WC.region ?_
 refine WO.v (R.move rfl) rfl ?_
 refine WO.v (R.assign rfl) rfl ?_
 refine WO.nil ?_
 refine WX.next ?_
 refine WC.ret ?_
 refine WX.gj ?_
 refine WX.rZ rfl rfl ?_
 exact ⟨rfl,w1,k1,rfl⟩
set_option maxRecDepth 100000 in
set_option maxHeartbeats 1000000 in
theorem mT {w:World} {g n i c vc:Nat} {ad:Addr} {cur vs ds:List Value} {curA:Array Value} {tA:TypeId} {fA:Nat × Nat} (hi:i<n) (hc:n+1<=c) (hcm:c<=maxLen)
  (hrow:w.heap[g]? = some (.cells cur.toArray 42 (0,0))) (hcur:(n+1)*4<=cur.length) (hv:CellsAt w ad vs) (hvb:w.heap[ad.block]? = some (.cells curA tA fA)) (hvb0:curA.size≠0) (hne:ad.block≠g) (hvl:vs.length=4) (hd:CellsAt w ⟨g,i*4,none⟩ ds) (hdl:ds.length=(n - i)*4)
  (h1v:∀ u ∈ vs,u.oneCell' = true) (h1d:∀ u ∈ ds,u.oneCell' = true) :
  gE Try.prog 31 [.slice (some ⟨g,0,none⟩) n c,.int .i64 (i:Int),.slice (some ad) 1 vc].toArray w fun v w'=>v = .slice (some ⟨g,0,none⟩) (n+1) c/\∃ w1,Kp [] w w1/\w' = (w1.setRow g (cur.take ((i+1)*4)++ds++cur.drop ((i+1)*4+ds.length)).toArray).setRow g ((cur.take ((i+1)*4)++ds++cur.drop ((i+1)*4+ds.length)).take (i*4)++vs++(cur.take ((i+1)*4)++ds++cur.drop ((i+1)*4+ds.length)).drop (i*4+vs.length)).toArray:=by
 have hcm:c<=9223372036854775807:=hcm
 have hn1:vs.length=Nat.min 1 (n+1 - i)*4:=by rw [show Nat.min 1 (n+1 - i)=1 from Nat.min_eq_left (by omega),Nat.one_mul]; exact hvl
 have hn2:ds.length=Nat.min (n+1 - i) (n+1 - (i+1))*4:=by rw [show Nat.min (n+1 - i) (n+1 - (i+1))=n+1 - (i+1) from Nat.min_eq_right (by omega),hdl]; congr 1; omega
 refine gE.enter Try.func31 rfl rfl rfl rfl ?_
 refine WC.seq ?_
 refine WC.region ?_
 refine WO.v (R.assign rfl) rfl ?_
 refine WO.nil ?_
 refine WX.next ?_
 refine WC.seq ?_
 refine WC.region ?_
 refine WO.v (R.move rfl) rfl ?_
 refine WO.v (R.move rfl) rfl ?_
 refine WO.v (R.bW rfl rfl Try.underlying22 bZ rfl (by omega)) rfl ?_
 refine WO.nil ?_
 refine WX.next ?_
 refine WC.seq ?_
 refine WC.region ?_
 refine WO.v (R.move rfl) rfl ?_
 refine WO.v (R.len rfl Try.underlying22) rfl ?_
 refine WO.v (R.assign rfl) rfl ?_
 refine WO.nil ?_
 refine WX.next ?_
 refine WC.seq ?_
 refine WC.seq ?_
 refine WC.region ?_
 refine WO.v (R.move rfl) rfl ?_
 refine WO.v (R.eql rfl rfl) rfl ?_
 refine WO.nil ?_
 refine WX.next ?_
 refine WC.cond rfl (fun q=>absurd (of_decide_eq_true q) (by omega)) (fun _=>?_)
 refine WC.skip ?_
 refine WX.next ?_
 refine WC.seq ?_
 refine WC.region ?_
 refine WO.v (R.move rfl) rfl ?_
 refine WO.v (R.len rfl Try.underlying22) rfl ?_
 refine WO.v (R.assign rfl) rfl ?_
 refine WO.nil ?_
 refine WX.next ?_
 refine WC.seq ?_
 refine WC.seq ?_
 refine WC.region ?_
 refine WO.v (R.move rfl) rfl ?_
 refine WO.v (R.move rfl) rfl ?_
 refine WO.v (R.eql rfl rfl) rfl ?_
 refine WO.nil ?_
 refine WX.next ?_
 refine WC.cond rfl (fun q=>absurd (of_decide_eq_true q) (by omega)) (fun _=>?_)
 refine WC.skip ?_
 refine WX.next ?_
 refine WC.seq ?_
 refine WC.seq ?_
 refine WC.region ?_
 refine WO.v (R.move rfl) rfl ?_
 refine WO.v (R.move rfl) rfl ?_
 refine WO.v (R.iv rfl rfl (by omega)) rfl ?_
 refine WO.v (R.move rfl) rfl ?_
 refine WO.v (R.Bx rfl Try.underlying22) rfl ?_
 refine WO.v (R.gtr rfl rfl) rfl ?_
 refine WO.nil ?_
 refine WX.next ?_
 refine WC.cond rfl (fun q=>absurd (of_decide_eq_true q) (by omega)) (fun _=>?_)
 refine WC.skip ?_
 refine WX.next ?_
 refine WC.seq ?_
 refine WC.region ?_
 refine WO.v (R.move rfl) rfl ?_
 refine WO.v (R.move rfl) rfl ?_
 refine WO.v (R.move rfl) rfl ?_
 refine WO.v (R.iv rfl rfl (by omega)) rfl ?_
 refine WO.v (R.jb rfl rfl Try.underlying22 bZ (db (i:=0) (by omega)) (by omega)) rfl ?_
 refine WO.v (R.assign rfl) rfl ?_
 refine WO.nil ?_
 refine WX.next ?_
 refine WC.seq ?_
 refine WC.seq ?_
 refine WC.region ?_
 refine WO.v (R.move rfl) rfl ?_
 refine WO.v (R.move rfl) rfl ?_
 refine WO.v (R.move rfl) rfl ?_
 refine WO.v (R.move rfl) rfl ?_
 refine WO.v (R.iv rfl rfl (by omega)) rfl ?_
 refine WO.v (R.bW rfl rfl Try.underlying22 bZ (db (by omega)) (by omega)) rfl ?_
 refine WO.v (R.Hk (tS:=22) (tR:=4) Try.func68 rfl rfl (by kernel_rfl) (by kernel_rfl) Try.underlying22 bZ hne hvb hvb0 hrow rfl rfl) rfl ?_
 refine WO.v (R.not rfl) rfl ?_
 refine WO.nil ?_
 refine WX.next ?_
 refine WC.yJ rfl ?_
 refine WC.seq ?_
 refine WC.nL fN [.ex [] (.slice (some ⟨g,0,none⟩) (n+1) c),.ex [] (.int .i64 ((i:Nat):Int)),.ex [] (.int .i64 ((1:Nat):Int)),.ex [1,2] (.int .i64 ((i+1:Nat):Int)),.ex [0,3] (.slice (some ⟨g,(i+1)*4,none⟩) (n+1 - (i+1)) (c - (i+1))),.ex [] (.slice (some ⟨g,0,none⟩) (n+1) c),.ex [] (.int .i64 ((i:Nat):Int)),.ex [5,6] (.slice (some ⟨g,i*4,none⟩) (n+1 - i) (c - i))] 8 (by kernel_rfl) ⟨fun _ _ _ h _=>h,fun _ _ _ h _=>h,fun _ _ _ h _=>h,fun _ _ _ h _=>h,fun _ _ _ h _=>h,fun _ _ _ h _=>h,fun _ _ _ h _=>h,fun _ _ _ h _=>h,trivial⟩ ⟨?_,?_,?_,?_,?_,?_,?_,?_,trivial⟩ ?_
 ·rintro vs wd kd ⟨-⟩
  refine WO.bm (fr':=[(0,.slice (some ⟨g,0,none⟩) (n+1) c)]) ⟨⟨_,rfl,rfl⟩,trivial⟩ ?_
  refine WO.v (R.move rfl) rfl ?_
  refine WO.nil ?_
  exact WX.aI rfl rfl (Kp.refl _)
 ·rintro vs wd kd ⟨-⟩
  refine WO.bm (fr':=[(1,.int .i64 ((i:Nat):Int))]) ⟨⟨_,rfl,rfl⟩,trivial⟩ ?_
  refine WO.v (R.move rfl) rfl ?_
  refine WO.nil ?_
  exact WX.aI rfl rfl (Kp.refl _)
 ·rintro vs wd kd ⟨-⟩
  refine WO.bm (fr':=[(7,.int .i64 ((1:Nat):Int))]) ⟨⟨_,rfl,rfl⟩,trivial⟩ ?_
  refine WO.v (R.move rfl) rfl ?_
  refine WO.nil ?_
  exact WX.aI rfl rfl (Kp.refl _)
 ·rintro vs wd kd ⟨e1,e2,-⟩
  refine WO.bm (fr':=[(70,.int .i64 ((i:Nat):Int)),(71,.int .i64 ((1:Nat):Int))]) ⟨⟨_,rfl,e1⟩,⟨_,rfl,e2⟩,trivial⟩ ?_
  refine WO.v (R.iv rfl rfl (by omega)) rfl ?_
  refine WO.nil ?_
  exact WX.aI rfl rfl (Kp.refl _)
 ·rintro vs wd kd ⟨e0,e3,-⟩
  refine WO.bm (fr':=[(69,.slice (some ⟨g,0,none⟩) (n+1) c),(72,.int .i64 ((i+1:Nat):Int))]) ⟨⟨_,rfl,e0⟩,⟨_,rfl,e3⟩,trivial⟩ ?_
  refine WO.v (R.bW rfl rfl Try.underlying22 bZ (db (by omega)) (by omega)) rfl ?_
  refine WO.nil ?_
  exact WX.aI rfl rfl (Kp.refl _)
 ·rintro vs wd kd ⟨-⟩
  refine WO.bm (fr':=[(0,.slice (some ⟨g,0,none⟩) (n+1) c)]) ⟨⟨_,rfl,rfl⟩,trivial⟩ ?_
  refine WO.v (R.move rfl) rfl ?_
  refine WO.nil ?_
  exact WX.aI rfl rfl (Kp.refl _)
 ·rintro vs wd kd ⟨-⟩
  refine WO.bm (fr':=[(1,.int .i64 ((i:Nat):Int))]) ⟨⟨_,rfl,rfl⟩,trivial⟩ ?_
  refine WO.v (R.move rfl) rfl ?_
  refine WO.nil ?_
  exact WX.aI rfl rfl (Kp.refl _)
 ·rintro vs wd kd ⟨e5,e6,-⟩
  refine WO.bm (fr':=[(74,.slice (some ⟨g,0,none⟩) (n+1) c),(75,.int .i64 ((i:Nat):Int))]) ⟨⟨_,rfl,e5⟩,⟨_,rfl,e6⟩,trivial⟩ ?_
  refine WO.v (R.bW rfl rfl Try.underlying22 bZ (db (by omega)) (by omega)) rfl ?_
  refine WO.nil ?_
  exact WX.aI rfl rfl (Kp.refl _)
 rintro vsx w1 k1 ⟨-,-,-,-,e4,-,-,e7,-⟩
 replace k1:Kp [] w w1:=k1
 refine WO.bm (fr':=[(73,.slice (some ⟨g,(i+1)*4,none⟩) (n+1 - (i+1)) (c - (i+1))),(76,.slice (some ⟨g,i*4,none⟩) (n+1 - i) (c - i)),(0,.slice (some ⟨g,0,none⟩) (n+1) c),(1,.int .i64 ((i:Nat):Int)),(2,.slice (some ad) 1 vc)]) ⟨⟨_,rfl,e4⟩,⟨_,rfl,e7⟩,⟨_,rfl,rfl⟩,⟨_,rfl,rfl⟩,⟨_,rfl,rfl⟩,trivial⟩ ?_
 have hg1:w1.heap[g]? = some (.cells (List.toArray cur) 42 (0,0)):=by rw [k1.block g (aW hrow) (by simp)]; exact hrow
 refine WO.v (R.jN rfl rfl Try.underlying22 bZ hg1 hn2 (hd.kp k1 (aW hrow) (by simp)) (by omega) h1d) rfl ?_
 refine WO.nil ?_
 refine WX.next ?_
 have hg2:(w1.setRow g (cur.take ((i+1)*4)++ds++cur.drop ((i+1)*4+ds.length)).toArray).heap[g]? = some (.cells (List.toArray (cur.take ((i+1)*4)++ds++cur.drop ((i+1)*4+ds.length))) 42 (0,0)):=setRow_heap w1 g _ _ 42 _ hg1
 have hv2:CellsAt (w1.setRow g (cur.take ((i+1)*4)++ds++cur.drop ((i+1)*4+ds.length)).toArray) ad vs:=(hv.kp k1 (aW hvb) (by simp)).kp (Kp.setRow w1 g _) (Nat.lt_of_lt_of_le (aW hvb) k1.size) (by simpa using fun h=>hne h.symm)
 refine WC.seq ?_
 refine WC.region ?_
 refine WO.v (R.move rfl) rfl ?_
 refine WO.v (R.move rfl) rfl ?_
 refine WO.v (R.bW rfl rfl Try.underlying22 bZ (db (by omega)) (by omega)) rfl ?_
 refine WO.v (R.move rfl) rfl ?_
 refine WO.v (R.jN rfl rfl Try.underlying22 bZ hg2 hn1 hv2 (by simp only [List.length_append,List.length_take,List.length_drop]; omega) h1v) rfl ?_
 refine WO.nil ?_
 refine WX.next ?_
 refine WC.seq ?_
 refine WC.region ?_
 refine WO.v (R.move rfl) rfl ?_
 refine WO.v (R.assign rfl) rfl ?_
 refine WO.nil ?_
 refine WX.next ?_
 refine WC.ret ?_
 refine WX.gj ?_
 refine WX.rZ rfl rfl ?_
 exact ⟨rfl,w1,k1,rfl⟩
theorem rq {G:Gl} {ρ:List RE} {H:AH} {w:World} (hs:G.shp=av aL) (hR:Rep G ρ H w) {l m:List (den (.nm .sess))} (hH:getO H 0 = .row 42 (.nm .sess) l) (hl:l.length<1048576) {i:Nat} (hi:i<=l.length) {v0:Value} (h0:Rd (cx G ρ w) ρ (.own 0) v0)
  {ad:Addr} {k:Nat} {cys:List Value} {bAV:AV} (hm:m.length=1) (hb:Rd (cx G ρ w) ρ bAV (.slice (some ad) 1 k)) (hbv:(bAV.vw H).e_ (.nm .sess)=some m) (hv:CellsAt w ad cys) (hvl:cys.length=4) (h1v:∀ u ∈ cys,u.oneCell' = true) (hp:Pds (cx G ρ w) (m.flatMap (cellsOf (.nm .sess))) cys)
  (hne:∀ g c n z,ρ[0]? = some (.row g c n z)->ad.block≠g) {curA:Array Value} {tA:TypeId} {fA:Nat × Nat} (hvb:w.heap[ad.block]? = some (.cells curA tA fA)) (hvb0:curA.size≠0) :
  gE Try.prog 31 [v0,.int .i64 (i:Int),.slice (some ad) 1 k].toArray w fun v w'=>∃ ρ',Stp (vT 0) ρ w ρ' w' /\ Rep G ρ' ((ej (AV.kill 0) H).set 0 (.row 42 (.nm .sess) (l.take i++m++l.drop i))) w' /\ Rd (cx G ρ' w') ρ' (.own 0) v:=by
 have hT:bh Try.prog G.shp aL:=hs ▸ fY
 obtain ⟨hshp,hlen⟩:=cG hR hH
 have hl64:l.length<=9223372036854775807:=by omega
 have hin:((l.length:Nat):Int)<=9223372036854775807:=by omega
 by_cases hie:i=l.length
 ·subst hie
  have hc:∃ A c,v0 = .slice A l.length c:=by
   rcases h0 with ⟨g,cap,len,z,h1,rfl⟩ | ⟨h1,a,rfl⟩
   ·rcases bl hR hH with ⟨h2,_⟩ | ⟨g',cap',cells,sp,h2,_⟩
    ·rw [h1] at h2; cases h2
    ·rw [h1] at h2; cases h2; exact ⟨_,_,rfl⟩
   ·rcases bl hR hH with ⟨_,h2⟩ | ⟨g',cap',cells,sp,h2,_⟩
    ·subst h2; exact ⟨_,_,rfl⟩
    ·rw [h1] at h2; cases h2
  obtain ⟨A,c,rfl⟩:=hc
  refine pU fun F x y ty hx hy=>?_
  have happ:fk aL (vT 0) ([]:AFr) H 22 (.own 0) bAV=some ⟨one (.own 0),[],(ej (AV.kill 0) H).set 0 (.row 42 (.nm .sess) (l++m)),[(l.length+m.length)*(Sh.nm NT.sess).bytes<=140737488355328],[]⟩:=by
   unfold fk
   rw [show bp aL 22=some ⟨.sl 42 (some (.nm .sess)),1,[.em true]⟩ from by kernel_rfl]
   simp only [hbv,hH]
   rfl
  obtain ⟨v,w',h1,ρ',h2,h3,_,h5,_⟩:=fy (P:=Try.prog) (n:=95) (F:=[]) (ty:=ty) (fr:=[]) (x:=.const (.slice A l.length c)) (y:=.const (.slice (some ad) 1 k)) hT hR .nil happ (by
   intro p hp
   rw [List.mem_singleton] at hp; subst hp
   show (l.length+m.length)*32<=_
   omega) h0 hb rfl rfl
  refine ⟨v,w',R.uO h1 hx hy,ρ',h2,?_,h5⟩
  rw [List.take_length,List.drop_length,List.append_nil]
  exact h3
 ·have hlt:i<l.length:=by omega
  rcases bl hR hH with ⟨_,h2⟩ | ⟨g,cap,cells,sp,hρ,hg,hpd,hsz,hcap,hmax⟩
  ·subst h2; simp at hlt
  obtain ⟨hnb,hil,hiH⟩:=js hR hH
  have hv0:v0 = .slice (some ⟨g,0,none⟩) l.length cap:=by
   rcases h0 with ⟨g',cap',len,z,h1,rfl⟩ | ⟨h1,a,rfl⟩
   ·rw [hρ] at h1; cases h1; rfl
   ·rw [hρ] at h1; cases h1
  subst hv0
  have hz:(Sh.nm NT.sess).size=4:=rfl
  have hby:(Sh.nm NT.sess).bytes=32:=rfl
  have hcl:cells.length=l.length*4:=by rw [<- hpd.length,bD,hz]
  rw [hz,List.length_append] at hsz
  have hone:∀ u ∈ cells.drop (i*4),u.oneCell' = true:=fun u hu=>hpd.zx u (List.mem_of_mem_drop hu)
  have hd:CellsAt w ⟨g,i*4,none⟩ (cells.drop (i*4)):=by
   have:=(bQ hg).shift (i*4)
   rwa [add_lit,Nat.zero_add] at this
  have hdl:(cells.drop (i*4)).length=(l.length - i)*4:=by rw [List.length_drop,hcl]; omega
  have hgl:=aW hg
  have hzl:(l.take i++m++l.drop i).length=l.length+1:=by
   rw [List.length_append,List.length_append,List.length_take,List.length_drop,hm]; omega
  have hnew:∀ {c:Cx},(cx G ρ w).le c->Pds c ((l.take i++m++l.drop i).flatMap (cellsOf (.nm .sess))) (cells.take (i*4)++cys++cells.drop (i*4)):=fun {c} hle=>by
   rw [List.flatMap_append,List.flatMap_append]
   exact (((bA hpd i).append hp).append (bH hpd i)).carry hle
  have hnl:(cells.take (i*4)++cys++cells.drop (i*4)).length=(l.length+1)*4:=by
   rw [List.length_append,List.length_append,List.length_take,List.length_drop,hcl,hvl]; omega
  have hbig:(l.take i++m++l.drop i).length*(Sh.nm NT.sess).bytes<=140737488355328:=by rw [hzl,hby]; omega
  -- what is shown of any way
  have fin:∀ (S:List Nat) (g2 cap2:Nat) (sp2:List Value) (w':World),Kp S w w' -> (∀ b ∈ S,b=g)->(g2=g\/w.heap.size<=g2)->w'.heap[g2]? = some (.cells (List.toArray (cells.take (i*4)++cys++cells.drop (i*4)++sp2)) 42 (0,0))->(l.length+1)*4+sp2.length=cap2*4->l.length+1<=cap2->cap2<=maxLen ->
    ∃ ρ',Stp (vT 0) ρ w ρ' w' /\ Rep G ρ' ((ej (AV.kill 0) H).set 0 (.row 42 (.nm .sess) (l.take i++m++l.drop i))) w' /\ Rd (cx G ρ' w') ρ' (.own 0) (.slice (some ⟨g2,0,none⟩) (l.length+1) cap2):=by
   intro S g2 cap2 sp2 w' hk hS hg2 hh hlen2 hle2 hmax2
   obtain ⟨k1,k2,_⟩:=iJ (ro:=vT 0) (s':=.nm .sess) (e':=42) (zs:=l.take i++m++l.drop i) hR hH ⟨rfl,rfl⟩ hk (fun b hb=>⟨_,hρ,by rw [hS b hb]; rfl⟩) (r':=.row g2 cap2 (l.take i++m++l.drop i).length (Sh.nm NT.sess).size) (fun b hb=>by
    cases hb
    rcases hg2 with rfl | hg2
    ·exact .inl ⟨_,hρ,rfl⟩
    ·exact .inr ⟨hg2,aW hh⟩) (fun hle=>⟨hshp,hbig,.inr ⟨g2,cap2,_,sp2,rfl,hh,hnew hle,by rw [List.length_append,hnl,hz]; exact hlen2,by rw [hzl]; exact hle2,hmax2⟩⟩)
   exact ⟨_,k1,k2,.inl ⟨g2,cap2,_,_,List.getElem?_set_self hil,by rw [hzl]⟩⟩
  have eo:(i+1)*4=i*4+4:=by omega
  by_cases hroom:l.length+1<=cap
  ·refine (mT hlt hroom hmax hg (by rw [List.length_append]; omega) hv hvb hvb0 (hne _ _ _ _ hρ) hvl hd hdl h1v hone).mono fun v w' ⟨e1,w1,k1,e2⟩=>?_
   subst e1; subst e2
   rw [eo,Cj (by omega) hvl]
   have hk:Kp [g] w ((w1.setRow g ((cells++sp).take (i*4+4)++cells.drop (i*4)++(cells++sp).drop (i*4+4+(cells.drop (i*4)).length)).toArray).setRow g (cells.take (i*4)++cys++cells.drop (i*4)++sp.drop 4).toArray):=((k1.sub (by simp)).step (Kp.setRow w1 g _) (by simp)).step (Kp.setRow _ g _) (by simp)
   have hg1:w1.heap[g]? = some (.cells (List.toArray (cells++sp)) 42 (0,0)):=by rw [k1.block g hgl (by simp)]; exact hg
   exact fin [g] g cap (sp.drop 4) _ hk (by simp) (.inl rfl) (setRow_heap _ g _ _ 42 _ (setRow_heap w1 g _ _ 42 _ hg1)) (by rw [List.length_drop]; omega) hroom hmax
  ·obtain ⟨ti,hi0,hz0,hz1,hz2⟩:=info_parts yO
   have eik:i+(l.length+1 - i)=l.length+1:=by omega
   have hge:=grownCap_ge w (l.length+1) cap 42
   have hgm:=grownCap_le_maxLen w (l.length+1) cap 42 (by simp [maxLen]; omega)
   have hold:(Builtin.firstCells ti.size i (.slice (some ⟨g,0*4,none⟩) i cap)).run Try.prog w.drew = .ok (cells.take (i*4)).toArray w.drew:=by
    have h:=run_loadCells_list (P:=Try.prog) w.drew ⟨g,0*4,none⟩ (cells.take (i*4)) (by rw [Nat.zero_mul]; exact (bQ hg).take _)
    rw [List.length_take,Nat.min_eq_left (by omega)] at h
    rw [hz1]; exact h
   have happ:∀ (F:Fr) (x y:Operand) (ty:TypeId),ev F x=some (.slice (some ⟨g,0*4,none⟩) i cap)->ev F y=some (.int .i64 ((l.length+1 - i:Nat):Int))->aM Try.prog 95 F w (.call { callee:=.builtin .append,args:=#[x,y],argTypes:=#[22,3] }) ty (.slice (some ⟨w.heap.size,0,none⟩) (l.length+1) (grownCap w (l.length+1) cap 42)) (w.drew.alloc (.cells (List.toArray (cells.take (i*4)++((Builtin.zeroCells (Value.agg #[.int .i64 0,.int .i64 0,.int .i64 0,.int .i64 0]).cells (l.length+1 - i)).toList++(Builtin.zeroCells (Value.agg #[.int .i64 0,.int .i64 0,.int .i64 0,.int .i64 0]).cells (grownCap w (l.length+1) cap 42 - (l.length+1))).toList))) 42)):=fun F x y ty hx hy=>by
    have h:=R.FD (P:=Try.prog) (n:=95) (ty:=ty) hx hy Try.underlying22 Try.underlying3 hi0 hz0 hold (by omega) (by rw [hz1]; decide) (by omega) (by omega) (by rw [hz2]; omega) (by rw [hz2,eik]; exact growslice_fits (by omega) (by omega))
    rw [eik] at h
    have e:∀ (a:List Value) (b c:Array Value),a.toArray++b++c=(a++(b.toList++c.toList)).toArray:=fun a b c=>by apply Array.ext'; simp
    rw [e] at h
    exact h
   have hcurl:(cells.take (i*4)++((Builtin.zeroCells (Value.agg #[.int .i64 0,.int .i64 0,.int .i64 0,.int .i64 0]).cells (l.length+1 - i)).toList++(Builtin.zeroCells (Value.agg #[.int .i64 0,.int .i64 0,.int .i64 0,.int .i64 0]).cells (grownCap w (l.length+1) cap 42 - (l.length+1))).toList)).length=grownCap w (l.length+1) cap 42*4:=by
    rw [List.length_append,List.length_append,List.length_take,lj,lj]
    show min _ _+((l.length+1 - i)*4+(grownCap w (l.length+1) cap 42 - (l.length+1))*4)=_
    omega
   have htk:(cells.take (i*4)++((Builtin.zeroCells (Value.agg #[.int .i64 0,.int .i64 0,.int .i64 0,.int .i64 0]).cells (l.length+1 - i)).toList++(Builtin.zeroCells (Value.agg #[.int .i64 0,.int .i64 0,.int .i64 0,.int .i64 0]).cells (grownCap w (l.length+1) cap 42 - (l.length+1))).toList)).take (i*4)=cells.take (i*4):=List.take_left' (by rw [List.length_take]; omega)
   generalize grownCap w (l.length+1) cap 42=GC at *
   generalize cells.take (i*4)++((Builtin.zeroCells (Value.agg #[.int .i64 0,.int .i64 0,.int .i64 0,.int .i64 0]).cells (l.length+1 - i)).toList++(Builtin.zeroCells (Value.agg #[.int .i64 0,.int .i64 0,.int .i64 0,.int .i64 0]).cells (GC - (l.length+1))).toList)=cur at *
   have hK1:Kp [] w (w.drew.alloc (.cells (List.toArray cur) 42)):=((Kp.refl w).drew).step (Kp.alloc w.drew _) (by simp)
   have hrow:(w.drew.alloc (.cells (List.toArray cur) 42)).heap[w.heap.size]? = some (.cells (List.toArray cur) 42 (0,0)):=heap_alloc_new w.drew _
   generalize w.drew.alloc (.cells (List.toArray cur) 42)=W1 at *
   refine (ot hlt hcap (by omega) hmax hge hgm happ hrow (by omega) (hv.kp hK1 (aW hvb) (by simp)) hvl (hd.kp hK1 hgl (by simp)) (by omega) (Nat.lt_of_lt_of_le hgl hK1.size) hdl h1v hone).mono fun v w' ⟨e1,w1,k1,e2⟩=>?_
   subst e1; subst e2
   rw [eo,CH (cells:=cells) (by omega) hvl htk]
   have hs1:∀ b ∈ [w.heap.size],b ∈ ([]:List Nat)\/w.heap.size<=b:=fun b hb=>.inr (by rw [List.mem_singleton] at hb; omega)
   have hk:Kp [] w (w1.setRow w.heap.size (cells.take (i*4)++cys++cells.drop (i*4)++cur.drop (i*4+4+(cells.drop (i*4)).length)).toArray):=((hK1.step (Kp.setRow W1 w.heap.size _) hs1).step k1 (by simp)).step (Kp.setRow w1 w.heap.size _) hs1
   have hg1:=(k1.block w.heap.size (by simpa using aW hrow) (by simp)).trans (setRow_heap W1 w.heap.size _ (cur.take (i*4)++cys++cur.drop (i*4+cys.length)).toArray 42 _ hrow)
   exact fin [] w.heap.size GC _ _ hk (by simp) (.inr (Nat.le_refl _)) (setRow_heap w1 w.heap.size _ _ 42 _ hg1) (by rw [List.length_drop]; omega) hge hgm
theorem pE (i:Int) (l m:List (den (.nm .sess))) (h:0<=i/\i<=(l.length:Int)) (hl:l.length<1048576) (hm:m.length=1):Sat Try.prog (av aL) 31 [.c (.own 0),.c (.int i),.c (.own 1)] [.row 42 (.nm .sess) l,.row 42 (.nm .sess) m] ⟨[0<=i/\i<=(l.length:Int),l.length<1048576,m.length=1],[.c (.own 0)],some [.row 42 (.nm .sess) (l.take i.toNat++m++l.drop i.toNat),.row 42 (.nm .sess) m],false⟩:=by
 refine ⟨⟨_,Try.func31,by decide,rfl⟩,fun G ρ w vs hs hR hvs=>?_⟩
 obtain ⟨i,rfl⟩:=Int.eq_ofNat_of_zero_le h.1
 cases hvs with | cons h0 hvs=>
 cases hvs with | cons h1 hvs=>
 cases hvs with | cons h2 hvs=>
 cases hvs
 have h1:Pd (cx G ρ w) (.int (i:Int)) _:=h1
 cases h1
 have h0:Rd (cx G ρ w) ρ (.own 0) _:=h0
 have h2:Rd (cx G ρ w) ρ (.own 1) _:=h2
 have hH:getO [AO.row 42 (.nm .sess) l,.row 42 (.nm .sess) m] 0 = .row 42 (.nm .sess) l:=rfl
 have hbv:(AV.vw [AO.row 42 (.nm .sess) l,.row 42 (.nm .sess) m] (.own 1)).e_ (.nm .sess)=some m:=by simp [AV.vw,AV.e_,getO]
 obtain ⟨A,k,cys,rfl,s1,s2,s3,s4⟩:=lR hR hbv h2
 rw [hm] at h2 s1 s3
 rw [hm]
 obtain ⟨ad,rfl,s5⟩:∃ ad,A=some ad/\CellsAt w ad cys:=s3.resolve_left (by decide)
 have hz:(Sh.nm NT.sess).size=4:=rfl
 rw [hz] at s1
 obtain ⟨u,hu⟩:∃ u,cys[0]? = some u:=⟨_,List.getElem?_eq_getElem (by omega)⟩
 obtain ⟨cur,t,f,hc,hc0⟩:=nM (s5 0 u hu)
 have hne:∀ g c n z,ρ[0]? = some (.row g c n z)->ad.block≠g:=fun g c n z hg e=>by
  rcases h2 with ⟨g',cap',len,z',h3,h4⟩ | ⟨h3,a,h4⟩
  ·cases h4
   have:=hR.inj 0 1 _ _ g hg h3 rfl (by rw [<- e]; rfl)
   omega
  ·cases h4
 rw [eW] at hc
 refine (rq hs hR hH hl (by omega) h0 hm h2 hbv s5 s1 s2 s4 hne hc hc0).mono fun v w' ⟨ρ',k1,k2,k3⟩=>?_
 exact ⟨[v],rfl,ρ',k2,k1.ext,k1.bx,.cons k3 .nil,fun hb=>by cases hb⟩
theorem cc:(Try.prog.info? 51).map (·.size)=some 2:=by kernel_rfl
theorem tJ:(Try.prog.info? 51).map (fun i=>(i.zero,i.size,i.bytes))=some (some (.agg #[.int .i64 0,.int .i64 0]),2,16):=by kernel_rfl
set_option maxRecDepth 100000 in
set_option maxHeartbeats 1000000 in
theorem sQ {w:World} {n c vc:Nat} {A:Option Addr} {B:Option Addr} {φ:Value->World->Prop} (happ:∀ (F:Fr) (x y:Operand) (ty:TypeId),ev F x=some (.slice A n c)->ev F y=some (.slice B 1 vc)->∃ v2 w2,aM Try.prog 95 F w (.call { callee:=.builtin .append,args:=#[x,y],argTypes:=#[23,23] }) ty v2 w2/\φ v2 w2) :
  gE Try.prog 74 [.slice A n c,.int .i64 (n:Int),.slice B 1 vc].toArray w φ:=by
 refine gE.enter Try.func74 rfl rfl rfl rfl ?_
 refine WC.seq ?_
 refine WC.region ?_
 refine WO.v (R.assign rfl) rfl ?_
 refine WO.nil ?_
 refine WX.next ?_
 refine WC.seq ?_
 refine WC.region ?_
 refine WO.v (R.move rfl) rfl ?_
 refine WO.v (R.move rfl) rfl ?_
 refine WO.v (R.bW rfl rfl Try.underlying23 cc rfl (by omega)) rfl ?_
 refine WO.nil ?_
 refine WX.next ?_
 refine WC.seq ?_
 refine WC.region ?_
 refine WO.v (R.move rfl) rfl ?_
 refine WO.v (R.len rfl Try.underlying23) rfl ?_
 refine WO.v (R.assign rfl) rfl ?_
 refine WO.nil ?_
 refine WX.next ?_
 refine WC.seq ?_
 refine WC.seq ?_
 refine WC.region ?_
 refine WO.v (R.move rfl) rfl ?_
 refine WO.v (R.eql rfl rfl) rfl ?_
 refine WO.nil ?_
 refine WX.next ?_
 refine WC.cond rfl (fun q=>absurd (of_decide_eq_true q) (by omega)) (fun _=>?_)
 refine WC.skip ?_
 refine WX.next ?_
 refine WC.seq ?_
 refine WC.region ?_
 refine WO.v (R.move rfl) rfl ?_
 refine WO.v (R.len rfl Try.underlying23) rfl ?_
 refine WO.v (R.assign rfl) rfl ?_
 refine WO.nil ?_
 refine WX.next ?_
 refine WC.seq ?_
 refine WC.seq ?_
 refine WC.region ?_
 refine WO.v (R.move rfl) rfl ?_
 refine WO.v (R.move rfl) rfl ?_
 refine WO.v (R.eql rfl rfl) rfl ?_
 refine WO.nil ?_
 refine WX.next ?_
 refine WC.cond rfl (fun _=>?_) (fun q=>absurd rfl (of_decide_eq_false q))
 refine WC.seq ?_
 refine WC.region ?_
 refine WO.v (R.move rfl) rfl ?_
 refine WO.v (R.move rfl) rfl ?_
 refine WO.ve (happ _ _ _ _ rfl rfl) rfl fun v2 w2 hv2=>?_
 refine WO.v (R.assign rfl) rfl ?_
 refine WO.nil ?_
 refine WX.next ?_
 refine WC.ret ?_
 refine WX.gj ?_
 refine WX.rZ rfl rfl ?_
 exact hv2
set_option maxRecDepth 100000 in
set_option maxHeartbeats 1000000 in
theorem qN {w W1:World} {g b n i c vc G:Nat} {ad:Addr} {cur vs ds:List Value} (hi:i<n) (hnc:n<=c) (hc:c<n+1) (hcm:c<=maxLen) (hG:n+1<=G) (hGm:G<=maxLen)
  (happ:∀ (F:Fr) (x y:Operand) (ty:TypeId),ev F x=some (.slice (some ⟨g,0*2,none⟩) i c)->ev F y=some (.int .i64 ((n+1 - i:Nat):Int))->aM Try.prog 95 F w (.call { callee:=.builtin .append,args:=#[x,y],argTypes:=#[23,3] }) ty (.slice (some ⟨b,0,none⟩) (n+1) G) W1)
  (hrow:W1.heap[b]? = some (.cells cur.toArray 51 (0,0))) (hcur:(n+1)*2<=cur.length) (hv:CellsAt W1 ad vs) (hvl:vs.length=2) (hd:CellsAt W1 ⟨g,i*2,none⟩ ds) (hgb:g≠b) (hgl:g<W1.heap.size) (hdl:ds.length=(n - i)*2)
  (h1v:∀ u ∈ vs,u.oneCell' = true) (h1d:∀ u ∈ ds,u.oneCell' = true) :
  gE Try.prog 74 [.slice (some ⟨g,0,none⟩) n c,.int .i64 (i:Int),.slice (some ad) 1 vc].toArray w fun v w'=>v = .slice (some ⟨b,0,none⟩) (n+1) G/\∃ w1,Kp [] (W1.setRow b (cur.take (i*2)++vs++cur.drop (i*2+vs.length)).toArray) w1/\w' = w1.setRow b ((cur.take (i*2)++vs++cur.drop (i*2+vs.length)).take ((i+1)*2)++ds++(cur.take (i*2)++vs++cur.drop (i*2+vs.length)).drop ((i+1)*2+ds.length)).toArray:=by
 have hGm:G<=9223372036854775807:=hGm
 have hcm:c<=9223372036854775807:=hcm
 have hn1:vs.length=Nat.min 1 (n+1 - i)*2:=by rw [show Nat.min 1 (n+1 - i)=1 from Nat.min_eq_left (by omega),Nat.one_mul]; exact hvl
 have hn2:ds.length=Nat.min (n - i) (n+1 - (i+1))*2:=by rw [show Nat.min (n - i) (n+1 - (i+1))=n - i from Nat.min_eq_left (by omega)]; exact hdl
 refine gE.enter Try.func74 rfl rfl rfl rfl ?_
 refine WC.seq ?_
 refine WC.region ?_
 refine WO.v (R.assign rfl) rfl ?_
 refine WO.nil ?_
 refine WX.next ?_
 refine WC.seq ?_
 refine WC.region ?_
 refine WO.v (R.move rfl) rfl ?_
 refine WO.v (R.move rfl) rfl ?_
 refine WO.v (R.bW rfl rfl Try.underlying23 cc rfl (by omega)) rfl ?_
 refine WO.nil ?_
 refine WX.next ?_
 refine WC.seq ?_
 refine WC.region ?_
 refine WO.v (R.move rfl) rfl ?_
 refine WO.v (R.len rfl Try.underlying23) rfl ?_
 refine WO.v (R.assign rfl) rfl ?_
 refine WO.nil ?_
 refine WX.next ?_
 refine WC.seq ?_
 refine WC.seq ?_
 refine WC.region ?_
 refine WO.v (R.move rfl) rfl ?_
 refine WO.v (R.eql rfl rfl) rfl ?_
 refine WO.nil ?_
 refine WX.next ?_
 refine WC.cond rfl (fun q=>absurd (of_decide_eq_true q) (by omega)) (fun _=>?_)
 refine WC.skip ?_
 refine WX.next ?_
 refine WC.seq ?_
 refine WC.region ?_
 refine WO.v (R.move rfl) rfl ?_
 refine WO.v (R.len rfl Try.underlying23) rfl ?_
 refine WO.v (R.assign rfl) rfl ?_
 refine WO.nil ?_
 refine WX.next ?_
 refine WC.seq ?_
 refine WC.seq ?_
 refine WC.region ?_
 refine WO.v (R.move rfl) rfl ?_
 refine WO.v (R.move rfl) rfl ?_
 refine WO.v (R.eql rfl rfl) rfl ?_
 refine WO.nil ?_
 refine WX.next ?_
 refine WC.cond rfl (fun q=>absurd (of_decide_eq_true q) (by omega)) (fun _=>?_)
 refine WC.skip ?_
 refine WX.next ?_
 refine WC.seq ?_
 refine WC.seq ?_
 refine WC.region ?_
 refine WO.v (R.move rfl) rfl ?_
 refine WO.v (R.move rfl) rfl ?_
 refine WO.v (R.iv rfl rfl (by omega)) rfl ?_
 refine WO.v (R.move rfl) rfl ?_
 refine WO.v (R.Bx rfl Try.underlying23) rfl ?_
 refine WO.v (R.gtr rfl rfl) rfl ?_
 refine WO.nil ?_
 refine WX.next ?_
 refine WC.cond rfl (fun _=>?_) (fun q=>absurd (by omega) (of_decide_eq_false q))
 refine WC.seq ?_
 refine WC.region ?_
 refine WO.v (R.move rfl) rfl ?_
 refine WO.v (R.move rfl) rfl ?_
 refine WO.v (R.jb rfl rfl Try.underlying23 cc (db (i:=0) (by omega)) (by omega)) rfl ?_
 refine WO.v (R.move rfl) rfl ?_
 refine WO.v (R.move rfl) rfl ?_
 refine WO.v (R.iv rfl rfl (by omega)) rfl ?_
 refine WO.v (R.move rfl) rfl ?_
 refine WO.v (R.Fx rfl rfl (by omega) (by omega)) rfl ?_
 refine WO.v (happ _ _ _ _ rfl rfl) rfl ?_
 refine WO.v (R.assign rfl) rfl ?_
 refine WO.nil ?_
 refine WX.next ?_
 refine WC.seq ?_
 refine WC.region ?_
 refine WO.v (R.move rfl) rfl ?_
 refine WO.v (R.move rfl) rfl ?_
 refine WO.v (R.bW rfl rfl Try.underlying23 cc (db (by omega)) (by omega)) rfl ?_
 refine WO.v (R.move rfl) rfl ?_
 refine WO.v (R.jN rfl rfl Try.underlying23 cc hrow hn1 hv (by omega) h1v) rfl ?_
 refine WO.nil ?_
 refine WX.next ?_
 refine WC.seq ?_
 refine WC.nL fN [.ex [] (.slice (some ⟨b,0,none⟩) (n+1) G),.ex [] (.int .i64 ((i:Nat):Int)),.ex [] (.int .i64 ((1:Nat):Int)),.ex [1,2] (.int .i64 ((i+1:Nat):Int)),.ex [0,3] (.slice (some ⟨b,(i+1)*2,none⟩) (n+1 - (i+1)) (G - (i+1))),.ex [] (.slice (some ⟨g,0,none⟩) n c),.ex [] (.int .i64 ((i:Nat):Int)),.ex [5,6] (.slice (some ⟨g,i*2,none⟩) (n - i) (c - i))] 8 (by kernel_rfl) ⟨fun _ _ _ h _=>h,fun _ _ _ h _=>h,fun _ _ _ h _=>h,fun _ _ _ h _=>h,fun _ _ _ h _=>h,fun _ _ _ h _=>h,fun _ _ _ h _=>h,fun _ _ _ h _=>h,trivial⟩ ⟨?_,?_,?_,?_,?_,?_,?_,?_,trivial⟩ ?_
 ·rintro vs wd kd ⟨-⟩
  refine WO.bm (fr':=[(9,.slice (some ⟨b,0,none⟩) (n+1) G)]) ⟨⟨_,rfl,rfl⟩,trivial⟩ ?_
  refine WO.v (R.move rfl) rfl ?_
  refine WO.nil ?_
  exact WX.aI rfl rfl (Kp.refl _)
 ·rintro vs wd kd ⟨-⟩
  refine WO.bm (fr':=[(1,.int .i64 ((i:Nat):Int))]) ⟨⟨_,rfl,rfl⟩,trivial⟩ ?_
  refine WO.v (R.move rfl) rfl ?_
  refine WO.nil ?_
  exact WX.aI rfl rfl (Kp.refl _)
 ·rintro vs wd kd ⟨-⟩
  refine WO.bm (fr':=[(7,.int .i64 ((1:Nat):Int))]) ⟨⟨_,rfl,rfl⟩,trivial⟩ ?_
  refine WO.v (R.move rfl) rfl ?_
  refine WO.nil ?_
  exact WX.aI rfl rfl (Kp.refl _)
 ·rintro vs wd kd ⟨e1,e2,-⟩
  refine WO.bm (fr':=[(47,.int .i64 ((i:Nat):Int)),(48,.int .i64 ((1:Nat):Int))]) ⟨⟨_,rfl,e1⟩,⟨_,rfl,e2⟩,trivial⟩ ?_
  refine WO.v (R.iv rfl rfl (by omega)) rfl ?_
  refine WO.nil ?_
  exact WX.aI rfl rfl (Kp.refl _)
 ·rintro vs wd kd ⟨e0,e3,-⟩
  refine WO.bm (fr':=[(46,.slice (some ⟨b,0,none⟩) (n+1) G),(49,.int .i64 ((i+1:Nat):Int))]) ⟨⟨_,rfl,e0⟩,⟨_,rfl,e3⟩,trivial⟩ ?_
  refine WO.v (R.bW rfl rfl Try.underlying23 cc (db (by omega)) (by omega)) rfl ?_
  refine WO.nil ?_
  exact WX.aI rfl rfl (Kp.refl _)
 ·rintro vs wd kd ⟨-⟩
  refine WO.bm (fr':=[(0,.slice (some ⟨g,0,none⟩) n c)]) ⟨⟨_,rfl,rfl⟩,trivial⟩ ?_
  refine WO.v (R.move rfl) rfl ?_
  refine WO.nil ?_
  exact WX.aI rfl rfl (Kp.refl _)
 ·rintro vs wd kd ⟨-⟩
  refine WO.bm (fr':=[(1,.int .i64 ((i:Nat):Int))]) ⟨⟨_,rfl,rfl⟩,trivial⟩ ?_
  refine WO.v (R.move rfl) rfl ?_
  refine WO.nil ?_
  exact WX.aI rfl rfl (Kp.refl _)
 ·rintro vs wd kd ⟨e5,e6,-⟩
  refine WO.bm (fr':=[(51,.slice (some ⟨g,0,none⟩) n c),(52,.int .i64 ((i:Nat):Int))]) ⟨⟨_,rfl,e5⟩,⟨_,rfl,e6⟩,trivial⟩ ?_
  refine WO.v (R.bW rfl rfl Try.underlying23 cc (db (by omega)) (by omega)) rfl ?_
  refine WO.nil ?_
  exact WX.aI rfl rfl (Kp.refl _)
 rintro vsx w1 k1 ⟨-,-,-,-,e4,-,-,e7,-⟩
 replace k1:Kp [] (W1.setRow b (cur.take (i*2)++vs++cur.drop (i*2+vs.length)).toArray) w1:=k1
 refine WO.bm (fr':=[(50,.slice (some ⟨b,(i+1)*2,none⟩) (n+1 - (i+1)) (G - (i+1))),(53,.slice (some ⟨g,i*2,none⟩) (n - i) (c - i)),(9,.slice (some ⟨b,0,none⟩) (n+1) G)]) ⟨⟨_,rfl,e4⟩,⟨_,rfl,e7⟩,⟨_,rfl,rfl⟩,trivial⟩ ?_
 have hb2:w1.heap[b]? = some (.cells (List.toArray (cur.take (i*2)++vs++cur.drop (i*2+vs.length))) 51 (0,0)):=by rw [k1.block b (by simpa using aW hrow) (by simp)]; exact setRow_heap W1 b _ _ 51 _ hrow
 have hd2:CellsAt w1 ⟨g,i*2,none⟩ ds:=(hd.kp (Kp.setRow W1 b _) hgl (by simpa using hgb.symm)).kp k1 (by simpa using hgl) (by simp)
 refine WO.v (R.jN rfl rfl Try.underlying23 cc hb2 hn2 hd2 (by simp only [List.length_append,List.length_take,List.length_drop]; omega) h1d) rfl ?_
 refine WO.nil ?_
 refine WX.next ?_
 refine WC.seq ?_
 refine WC.region ?_
 refine WO.v (R.move rfl) rfl ?_
 refine WO.v (R.assign rfl) rfl ?_
 refine WO.nil ?_
 refine WX.next ?_
 refine WC.ret ?_
 refine WX.gj ?_
 refine WX.rZ rfl rfl ?_
 exact ⟨rfl,w1,k1,rfl⟩
set_option maxRecDepth 100000 in
set_option maxHeartbeats 1000000 in
theorem pc {w:World} {g n i c vc:Nat} {ad:Addr} {cur vs ds:List Value} {curA:Array Value} {tA:TypeId} {fA:Nat × Nat} (hi:i<n) (hc:n+1<=c) (hcm:c<=maxLen)
  (hrow:w.heap[g]? = some (.cells cur.toArray 51 (0,0))) (hcur:(n+1)*2<=cur.length) (hv:CellsAt w ad vs) (hvb:w.heap[ad.block]? = some (.cells curA tA fA)) (hvb0:curA.size≠0) (hne:ad.block≠g) (hvl:vs.length=2) (hd:CellsAt w ⟨g,i*2,none⟩ ds) (hdl:ds.length=(n - i)*2)
  (h1v:∀ u ∈ vs,u.oneCell' = true) (h1d:∀ u ∈ ds,u.oneCell' = true) :
  gE Try.prog 74 [.slice (some ⟨g,0,none⟩) n c,.int .i64 (i:Int),.slice (some ad) 1 vc].toArray w fun v w'=>v = .slice (some ⟨g,0,none⟩) (n+1) c/\∃ w1,Kp [] w w1/\w' = (w1.setRow g (cur.take ((i+1)*2)++ds++cur.drop ((i+1)*2+ds.length)).toArray).setRow g ((cur.take ((i+1)*2)++ds++cur.drop ((i+1)*2+ds.length)).take (i*2)++vs++(cur.take ((i+1)*2)++ds++cur.drop ((i+1)*2+ds.length)).drop (i*2+vs.length)).toArray:=by
 have hcm:c<=9223372036854775807:=hcm
 have hn1:vs.length=Nat.min 1 (n+1 - i)*2:=by rw [show Nat.min 1 (n+1 - i)=1 from Nat.min_eq_left (by omega),Nat.one_mul]; exact hvl
 have hn2:ds.length=Nat.min (n+1 - i) (n+1 - (i+1))*2:=by rw [show Nat.min (n+1 - i) (n+1 - (i+1))=n+1 - (i+1) from Nat.min_eq_right (by omega),hdl]; congr 1; omega
 refine gE.enter Try.func74 rfl rfl rfl rfl ?_
 refine WC.seq ?_
 refine WC.region ?_
 refine WO.v (R.assign rfl) rfl ?_
 refine WO.nil ?_
 refine WX.next ?_
 refine WC.seq ?_
 refine WC.region ?_
 refine WO.v (R.move rfl) rfl ?_
 refine WO.v (R.move rfl) rfl ?_
 refine WO.v (R.bW rfl rfl Try.underlying23 cc rfl (by omega)) rfl ?_
 refine WO.nil ?_
 refine WX.next ?_
 refine WC.seq ?_
 refine WC.region ?_
 refine WO.v (R.move rfl) rfl ?_
 refine WO.v (R.len rfl Try.underlying23) rfl ?_
 refine WO.v (R.assign rfl) rfl ?_
 refine WO.nil ?_
 refine WX.next ?_
 refine WC.seq ?_
 refine WC.seq ?_
 refine WC.region ?_
 refine WO.v (R.move rfl) rfl ?_
 refine WO.v (R.eql rfl rfl) rfl ?_
 refine WO.nil ?_
 refine WX.next ?_
 refine WC.cond rfl (fun q=>absurd (of_decide_eq_true q) (by omega)) (fun _=>?_)
 refine WC.skip ?_
 refine WX.next ?_
 refine WC.seq ?_
 refine WC.region ?_
 refine WO.v (R.move rfl) rfl ?_
 refine WO.v (R.len rfl Try.underlying23) rfl ?_
 refine WO.v (R.assign rfl) rfl ?_
 refine WO.nil ?_
 refine WX.next ?_
 refine WC.seq ?_
 refine WC.seq ?_
 refine WC.region ?_
 refine WO.v (R.move rfl) rfl ?_
 refine WO.v (R.move rfl) rfl ?_
 refine WO.v (R.eql rfl rfl) rfl ?_
 refine WO.nil ?_
 refine WX.next ?_
 refine WC.cond rfl (fun q=>absurd (of_decide_eq_true q) (by omega)) (fun _=>?_)
 refine WC.skip ?_
 refine WX.next ?_
 refine WC.seq ?_
 refine WC.seq ?_
 refine WC.region ?_
 refine WO.v (R.move rfl) rfl ?_
 refine WO.v (R.move rfl) rfl ?_
 refine WO.v (R.iv rfl rfl (by omega)) rfl ?_
 refine WO.v (R.move rfl) rfl ?_
 refine WO.v (R.Bx rfl Try.underlying23) rfl ?_
 refine WO.v (R.gtr rfl rfl) rfl ?_
 refine WO.nil ?_
 refine WX.next ?_
 refine WC.cond rfl (fun q=>absurd (of_decide_eq_true q) (by omega)) (fun _=>?_)
 refine WC.skip ?_
 refine WX.next ?_
 refine WC.seq ?_
 refine WC.region ?_
 refine WO.v (R.move rfl) rfl ?_
 refine WO.v (R.move rfl) rfl ?_
 refine WO.v (R.move rfl) rfl ?_
 refine WO.v (R.iv rfl rfl (by omega)) rfl ?_
 refine WO.v (R.jb rfl rfl Try.underlying23 cc (db (i:=0) (by omega)) (by omega)) rfl ?_
 refine WO.v (R.assign rfl) rfl ?_
 refine WO.nil ?_
 refine WX.next ?_
 refine WC.seq ?_
 refine WC.seq ?_
 refine WC.region ?_
 refine WO.v (R.move rfl) rfl ?_
 refine WO.v (R.move rfl) rfl ?_
 refine WO.v (R.move rfl) rfl ?_
 refine WO.v (R.move rfl) rfl ?_
 refine WO.v (R.iv rfl rfl (by omega)) rfl ?_
 refine WO.v (R.bW rfl rfl Try.underlying23 cc (db (by omega)) (by omega)) rfl ?_
 refine WO.v (R.Hk (tS:=23) (tR:=4) Try.func97 rfl rfl (by kernel_rfl) (by kernel_rfl) Try.underlying23 cc hne hvb hvb0 hrow rfl rfl) rfl ?_
 refine WO.v (R.not rfl) rfl ?_
 refine WO.nil ?_
 refine WX.next ?_
 refine WC.yJ rfl ?_
 refine WC.seq ?_
 refine WC.nL fN [.ex [] (.slice (some ⟨g,0,none⟩) (n+1) c),.ex [] (.int .i64 ((i:Nat):Int)),.ex [] (.int .i64 ((1:Nat):Int)),.ex [1,2] (.int .i64 ((i+1:Nat):Int)),.ex [0,3] (.slice (some ⟨g,(i+1)*2,none⟩) (n+1 - (i+1)) (c - (i+1))),.ex [] (.slice (some ⟨g,0,none⟩) (n+1) c),.ex [] (.int .i64 ((i:Nat):Int)),.ex [5,6] (.slice (some ⟨g,i*2,none⟩) (n+1 - i) (c - i))] 8 (by kernel_rfl) ⟨fun _ _ _ h _=>h,fun _ _ _ h _=>h,fun _ _ _ h _=>h,fun _ _ _ h _=>h,fun _ _ _ h _=>h,fun _ _ _ h _=>h,fun _ _ _ h _=>h,fun _ _ _ h _=>h,trivial⟩ ⟨?_,?_,?_,?_,?_,?_,?_,?_,trivial⟩ ?_
 ·rintro vs wd kd ⟨-⟩
  refine WO.bm (fr':=[(0,.slice (some ⟨g,0,none⟩) (n+1) c)]) ⟨⟨_,rfl,rfl⟩,trivial⟩ ?_
  refine WO.v (R.move rfl) rfl ?_
  refine WO.nil ?_
  exact WX.aI rfl rfl (Kp.refl _)
 ·rintro vs wd kd ⟨-⟩
  refine WO.bm (fr':=[(1,.int .i64 ((i:Nat):Int))]) ⟨⟨_,rfl,rfl⟩,trivial⟩ ?_
  refine WO.v (R.move rfl) rfl ?_
  refine WO.nil ?_
  exact WX.aI rfl rfl (Kp.refl _)
 ·rintro vs wd kd ⟨-⟩
  refine WO.bm (fr':=[(7,.int .i64 ((1:Nat):Int))]) ⟨⟨_,rfl,rfl⟩,trivial⟩ ?_
  refine WO.v (R.move rfl) rfl ?_
  refine WO.nil ?_
  exact WX.aI rfl rfl (Kp.refl _)
 ·rintro vs wd kd ⟨e1,e2,-⟩
  refine WO.bm (fr':=[(70,.int .i64 ((i:Nat):Int)),(71,.int .i64 ((1:Nat):Int))]) ⟨⟨_,rfl,e1⟩,⟨_,rfl,e2⟩,trivial⟩ ?_
  refine WO.v (R.iv rfl rfl (by omega)) rfl ?_
  refine WO.nil ?_
  exact WX.aI rfl rfl (Kp.refl _)
 ·rintro vs wd kd ⟨e0,e3,-⟩
  refine WO.bm (fr':=[(69,.slice (some ⟨g,0,none⟩) (n+1) c),(72,.int .i64 ((i+1:Nat):Int))]) ⟨⟨_,rfl,e0⟩,⟨_,rfl,e3⟩,trivial⟩ ?_
  refine WO.v (R.bW rfl rfl Try.underlying23 cc (db (by omega)) (by omega)) rfl ?_
  refine WO.nil ?_
  exact WX.aI rfl rfl (Kp.refl _)
 ·rintro vs wd kd ⟨-⟩
  refine WO.bm (fr':=[(0,.slice (some ⟨g,0,none⟩) (n+1) c)]) ⟨⟨_,rfl,rfl⟩,trivial⟩ ?_
  refine WO.v (R.move rfl) rfl ?_
  refine WO.nil ?_
  exact WX.aI rfl rfl (Kp.refl _)
 ·rintro vs wd kd ⟨-⟩
  refine WO.bm (fr':=[(1,.int .i64 ((i:Nat):Int))]) ⟨⟨_,rfl,rfl⟩,trivial⟩ ?_
  refine WO.v (R.move rfl) rfl ?_
  refine WO.nil ?_
  exact WX.aI rfl rfl (Kp.refl _)
 ·rintro vs wd kd ⟨e5,e6,-⟩
  refine WO.bm (fr':=[(74,.slice (some ⟨g,0,none⟩) (n+1) c),(75,.int .i64 ((i:Nat):Int))]) ⟨⟨_,rfl,e5⟩,⟨_,rfl,e6⟩,trivial⟩ ?_
  refine WO.v (R.bW rfl rfl Try.underlying23 cc (db (by omega)) (by omega)) rfl ?_
  refine WO.nil ?_
  exact WX.aI rfl rfl (Kp.refl _)
 rintro vsx w1 k1 ⟨-,-,-,-,e4,-,-,e7,-⟩
 replace k1:Kp [] w w1:=k1
 refine WO.bm (fr':=[(73,.slice (some ⟨g,(i+1)*2,none⟩) (n+1 - (i+1)) (c - (i+1))),(76,.slice (some ⟨g,i*2,none⟩) (n+1 - i) (c - i)),(0,.slice (some ⟨g,0,none⟩) (n+1) c),(1,.int .i64 ((i:Nat):Int)),(2,.slice (some ad) 1 vc)]) ⟨⟨_,rfl,e4⟩,⟨_,rfl,e7⟩,⟨_,rfl,rfl⟩,⟨_,rfl,rfl⟩,⟨_,rfl,rfl⟩,trivial⟩ ?_
 have hg1:w1.heap[g]? = some (.cells (List.toArray cur) 51 (0,0)):=by rw [k1.block g (aW hrow) (by simp)]; exact hrow
 refine WO.v (R.jN rfl rfl Try.underlying23 cc hg1 hn2 (hd.kp k1 (aW hrow) (by simp)) (by omega) h1d) rfl ?_
 refine WO.nil ?_
 refine WX.next ?_
 have hg2:(w1.setRow g (cur.take ((i+1)*2)++ds++cur.drop ((i+1)*2+ds.length)).toArray).heap[g]? = some (.cells (List.toArray (cur.take ((i+1)*2)++ds++cur.drop ((i+1)*2+ds.length))) 51 (0,0)):=setRow_heap w1 g _ _ 51 _ hg1
 have hv2:CellsAt (w1.setRow g (cur.take ((i+1)*2)++ds++cur.drop ((i+1)*2+ds.length)).toArray) ad vs:=(hv.kp k1 (aW hvb) (by simp)).kp (Kp.setRow w1 g _) (Nat.lt_of_lt_of_le (aW hvb) k1.size) (by simpa using fun h=>hne h.symm)
 refine WC.seq ?_
 refine WC.region ?_
 refine WO.v (R.move rfl) rfl ?_
 refine WO.v (R.move rfl) rfl ?_
 refine WO.v (R.bW rfl rfl Try.underlying23 cc (db (by omega)) (by omega)) rfl ?_
 refine WO.v (R.move rfl) rfl ?_
 refine WO.v (R.jN rfl rfl Try.underlying23 cc hg2 hn1 hv2 (by simp only [List.length_append,List.length_take,List.length_drop]; omega) h1v) rfl ?_
 refine WO.nil ?_
 refine WX.next ?_
 refine WC.seq ?_
 refine WC.region ?_
 refine WO.v (R.move rfl) rfl ?_
 refine WO.v (R.assign rfl) rfl ?_
 refine WO.nil ?_
 refine WX.next ?_
 refine WC.ret ?_
 refine WX.gj ?_
 refine WX.rZ rfl rfl ?_
 exact ⟨rfl,w1,k1,rfl⟩
theorem sH {G:Gl} {ρ:List RE} {H:AH} {w:World} (hs:G.shp=av aL) (hR:Rep G ρ H w) {l m:List (den (.nm .opn))} (hH:getO H 0 = .row 51 (.nm .opn) l) (hl:l.length<1048576) {i:Nat} (hi:i<=l.length) {v0:Value} (h0:Rd (cx G ρ w) ρ (.own 0) v0)
  {ad:Addr} {k:Nat} {cys:List Value} {bAV:AV} (hm:m.length=1) (hb:Rd (cx G ρ w) ρ bAV (.slice (some ad) 1 k)) (hbv:(bAV.vw H).e_ (.nm .opn)=some m) (hv:CellsAt w ad cys) (hvl:cys.length=2) (h1v:∀ u ∈ cys,u.oneCell' = true) (hp:Pds (cx G ρ w) (m.flatMap (cellsOf (.nm .opn))) cys)
  (hne:∀ g c n z,ρ[0]? = some (.row g c n z)->ad.block≠g) {curA:Array Value} {tA:TypeId} {fA:Nat × Nat} (hvb:w.heap[ad.block]? = some (.cells curA tA fA)) (hvb0:curA.size≠0) :
  gE Try.prog 74 [v0,.int .i64 (i:Int),.slice (some ad) 1 k].toArray w fun v w'=>∃ ρ',Stp (vT 0) ρ w ρ' w' /\ Rep G ρ' ((ej (AV.kill 0) H).set 0 (.row 51 (.nm .opn) (l.take i++m++l.drop i))) w' /\ Rd (cx G ρ' w') ρ' (.own 0) v:=by
 have hT:bh Try.prog G.shp aL:=hs ▸ fY
 obtain ⟨hshp,hlen⟩:=cG hR hH
 have hl64:l.length<=9223372036854775807:=by omega
 have hin:((l.length:Nat):Int)<=9223372036854775807:=by omega
 by_cases hie:i=l.length
 ·subst hie
  have hc:∃ A c,v0 = .slice A l.length c:=by
   rcases h0 with ⟨g,cap,len,z,h1,rfl⟩ | ⟨h1,a,rfl⟩
   ·rcases bl hR hH with ⟨h2,_⟩ | ⟨g',cap',cells,sp,h2,_⟩
    ·rw [h1] at h2; cases h2
    ·rw [h1] at h2; cases h2; exact ⟨_,_,rfl⟩
   ·rcases bl hR hH with ⟨_,h2⟩ | ⟨g',cap',cells,sp,h2,_⟩
    ·subst h2; exact ⟨_,_,rfl⟩
    ·rw [h1] at h2; cases h2
  obtain ⟨A,c,rfl⟩:=hc
  refine sQ fun F x y ty hx hy=>?_
  have happ:fk aL (vT 0) ([]:AFr) H 23 (.own 0) bAV=some ⟨one (.own 0),[],(ej (AV.kill 0) H).set 0 (.row 51 (.nm .opn) (l++m)),[(l.length+m.length)*(Sh.nm NT.opn).bytes<=140737488355328],[]⟩:=by
   unfold fk
   rw [show bp aL 23=some ⟨.sl 51 (some (.nm .opn)),1,[.em true]⟩ from by kernel_rfl]
   simp only [hbv,hH]
   rfl
  obtain ⟨v,w',h1,ρ',h2,h3,_,h5,_⟩:=fy (P:=Try.prog) (n:=95) (F:=[]) (ty:=ty) (fr:=[]) (x:=.const (.slice A l.length c)) (y:=.const (.slice (some ad) 1 k)) hT hR .nil happ (by
   intro p hp
   rw [List.mem_singleton] at hp; subst hp
   show (l.length+m.length)*16<=_
   omega) h0 hb rfl rfl
  refine ⟨v,w',R.uO h1 hx hy,ρ',h2,?_,h5⟩
  rw [List.take_length,List.drop_length,List.append_nil]
  exact h3
 ·have hlt:i<l.length:=by omega
  rcases bl hR hH with ⟨_,h2⟩ | ⟨g,cap,cells,sp,hρ,hg,hpd,hsz,hcap,hmax⟩
  ·subst h2; simp at hlt
  obtain ⟨hnb,hil,hiH⟩:=js hR hH
  have hv0:v0 = .slice (some ⟨g,0,none⟩) l.length cap:=by
   rcases h0 with ⟨g',cap',len,z,h1,rfl⟩ | ⟨h1,a,rfl⟩
   ·rw [hρ] at h1; cases h1; rfl
   ·rw [hρ] at h1; cases h1
  subst hv0
  have hz:(Sh.nm NT.opn).size=2:=rfl
  have hby:(Sh.nm NT.opn).bytes=16:=rfl
  have hcl:cells.length=l.length*2:=by rw [<- hpd.length,bD,hz]
  rw [hz,List.length_append] at hsz
  have hone:∀ u ∈ cells.drop (i*2),u.oneCell' = true:=fun u hu=>hpd.zx u (List.mem_of_mem_drop hu)
  have hd:CellsAt w ⟨g,i*2,none⟩ (cells.drop (i*2)):=by
   have:=(bQ hg).shift (i*2)
   rwa [add_lit,Nat.zero_add] at this
  have hdl:(cells.drop (i*2)).length=(l.length - i)*2:=by rw [List.length_drop,hcl]; omega
  have hgl:=aW hg
  have hzl:(l.take i++m++l.drop i).length=l.length+1:=by
   rw [List.length_append,List.length_append,List.length_take,List.length_drop,hm]; omega
  have hnew:∀ {c:Cx},(cx G ρ w).le c->Pds c ((l.take i++m++l.drop i).flatMap (cellsOf (.nm .opn))) (cells.take (i*2)++cys++cells.drop (i*2)):=fun {c} hle=>by
   rw [List.flatMap_append,List.flatMap_append]
   exact (((bA hpd i).append hp).append (bH hpd i)).carry hle
  have hnl:(cells.take (i*2)++cys++cells.drop (i*2)).length=(l.length+1)*2:=by
   rw [List.length_append,List.length_append,List.length_take,List.length_drop,hcl,hvl]; omega
  have hbig:(l.take i++m++l.drop i).length*(Sh.nm NT.opn).bytes<=140737488355328:=by rw [hzl,hby]; omega
  -- what is shown of any way
  have fin:∀ (S:List Nat) (g2 cap2:Nat) (sp2:List Value) (w':World),Kp S w w' -> (∀ b ∈ S,b=g)->(g2=g\/w.heap.size<=g2)->w'.heap[g2]? = some (.cells (List.toArray (cells.take (i*2)++cys++cells.drop (i*2)++sp2)) 51 (0,0))->(l.length+1)*2+sp2.length=cap2*2->l.length+1<=cap2->cap2<=maxLen ->
    ∃ ρ',Stp (vT 0) ρ w ρ' w' /\ Rep G ρ' ((ej (AV.kill 0) H).set 0 (.row 51 (.nm .opn) (l.take i++m++l.drop i))) w' /\ Rd (cx G ρ' w') ρ' (.own 0) (.slice (some ⟨g2,0,none⟩) (l.length+1) cap2):=by
   intro S g2 cap2 sp2 w' hk hS hg2 hh hlen2 hle2 hmax2
   obtain ⟨k1,k2,_⟩:=iJ (ro:=vT 0) (s':=.nm .opn) (e':=51) (zs:=l.take i++m++l.drop i) hR hH ⟨rfl,rfl⟩ hk (fun b hb=>⟨_,hρ,by rw [hS b hb]; rfl⟩) (r':=.row g2 cap2 (l.take i++m++l.drop i).length (Sh.nm NT.opn).size) (fun b hb=>by
    cases hb
    rcases hg2 with rfl | hg2
    ·exact .inl ⟨_,hρ,rfl⟩
    ·exact .inr ⟨hg2,aW hh⟩) (fun hle=>⟨hshp,hbig,.inr ⟨g2,cap2,_,sp2,rfl,hh,hnew hle,by rw [List.length_append,hnl,hz]; exact hlen2,by rw [hzl]; exact hle2,hmax2⟩⟩)
   exact ⟨_,k1,k2,.inl ⟨g2,cap2,_,_,List.getElem?_set_self hil,by rw [hzl]⟩⟩
  have eo:(i+1)*2=i*2+2:=by omega
  by_cases hroom:l.length+1<=cap
  ·refine (pc hlt hroom hmax hg (by rw [List.length_append]; omega) hv hvb hvb0 (hne _ _ _ _ hρ) hvl hd hdl h1v hone).mono fun v w' ⟨e1,w1,k1,e2⟩=>?_
   subst e1; subst e2
   rw [eo,Cj (by omega) hvl]
   have hk:Kp [g] w ((w1.setRow g ((cells++sp).take (i*2+2)++cells.drop (i*2)++(cells++sp).drop (i*2+2+(cells.drop (i*2)).length)).toArray).setRow g (cells.take (i*2)++cys++cells.drop (i*2)++sp.drop 2).toArray):=((k1.sub (by simp)).step (Kp.setRow w1 g _) (by simp)).step (Kp.setRow _ g _) (by simp)
   have hg1:w1.heap[g]? = some (.cells (List.toArray (cells++sp)) 51 (0,0)):=by rw [k1.block g hgl (by simp)]; exact hg
   exact fin [g] g cap (sp.drop 2) _ hk (by simp) (.inl rfl) (setRow_heap _ g _ _ 51 _ (setRow_heap w1 g _ _ 51 _ hg1)) (by rw [List.length_drop]; omega) hroom hmax
  ·obtain ⟨ti,hi0,hz0,hz1,hz2⟩:=info_parts tJ
   have eik:i+(l.length+1 - i)=l.length+1:=by omega
   have hge:=grownCap_ge w (l.length+1) cap 51
   have hgm:=grownCap_le_maxLen w (l.length+1) cap 51 (by simp [maxLen]; omega)
   have hold:(Builtin.firstCells ti.size i (.slice (some ⟨g,0*2,none⟩) i cap)).run Try.prog w.drew = .ok (cells.take (i*2)).toArray w.drew:=by
    have h:=run_loadCells_list (P:=Try.prog) w.drew ⟨g,0*2,none⟩ (cells.take (i*2)) (by rw [Nat.zero_mul]; exact (bQ hg).take _)
    rw [List.length_take,Nat.min_eq_left (by omega)] at h
    rw [hz1]; exact h
   have happ:∀ (F:Fr) (x y:Operand) (ty:TypeId),ev F x=some (.slice (some ⟨g,0*2,none⟩) i cap)->ev F y=some (.int .i64 ((l.length+1 - i:Nat):Int))->aM Try.prog 95 F w (.call { callee:=.builtin .append,args:=#[x,y],argTypes:=#[23,3] }) ty (.slice (some ⟨w.heap.size,0,none⟩) (l.length+1) (grownCap w (l.length+1) cap 51)) (w.drew.alloc (.cells (List.toArray (cells.take (i*2)++((Builtin.zeroCells (Value.agg #[.int .i64 0,.int .i64 0]).cells (l.length+1 - i)).toList++(Builtin.zeroCells (Value.agg #[.int .i64 0,.int .i64 0]).cells (grownCap w (l.length+1) cap 51 - (l.length+1))).toList))) 51)):=fun F x y ty hx hy=>by
    have h:=R.FD (P:=Try.prog) (n:=95) (ty:=ty) hx hy Try.underlying23 Try.underlying3 hi0 hz0 hold (by omega) (by rw [hz1]; decide) (by omega) (by omega) (by rw [hz2]; omega) (by rw [hz2,eik]; exact growslice_fits (by omega) (by omega))
    rw [eik] at h
    have e:∀ (a:List Value) (b c:Array Value),a.toArray++b++c=(a++(b.toList++c.toList)).toArray:=fun a b c=>by apply Array.ext'; simp
    rw [e] at h
    exact h
   have hcurl:(cells.take (i*2)++((Builtin.zeroCells (Value.agg #[.int .i64 0,.int .i64 0]).cells (l.length+1 - i)).toList++(Builtin.zeroCells (Value.agg #[.int .i64 0,.int .i64 0]).cells (grownCap w (l.length+1) cap 51 - (l.length+1))).toList)).length=grownCap w (l.length+1) cap 51*2:=by
    rw [List.length_append,List.length_append,List.length_take,lj,lj]
    show min _ _+((l.length+1 - i)*2+(grownCap w (l.length+1) cap 51 - (l.length+1))*2)=_
    omega
   have htk:(cells.take (i*2)++((Builtin.zeroCells (Value.agg #[.int .i64 0,.int .i64 0]).cells (l.length+1 - i)).toList++(Builtin.zeroCells (Value.agg #[.int .i64 0,.int .i64 0]).cells (grownCap w (l.length+1) cap 51 - (l.length+1))).toList)).take (i*2)=cells.take (i*2):=List.take_left' (by rw [List.length_take]; omega)
   generalize grownCap w (l.length+1) cap 51=GC at *
   generalize cells.take (i*2)++((Builtin.zeroCells (Value.agg #[.int .i64 0,.int .i64 0]).cells (l.length+1 - i)).toList++(Builtin.zeroCells (Value.agg #[.int .i64 0,.int .i64 0]).cells (GC - (l.length+1))).toList)=cur at *
   have hK1:Kp [] w (w.drew.alloc (.cells (List.toArray cur) 51)):=((Kp.refl w).drew).step (Kp.alloc w.drew _) (by simp)
   have hrow:(w.drew.alloc (.cells (List.toArray cur) 51)).heap[w.heap.size]? = some (.cells (List.toArray cur) 51 (0,0)):=heap_alloc_new w.drew _
   generalize w.drew.alloc (.cells (List.toArray cur) 51)=W1 at *
   refine (qN hlt hcap (by omega) hmax hge hgm happ hrow (by omega) (hv.kp hK1 (aW hvb) (by simp)) hvl (hd.kp hK1 hgl (by simp)) (by omega) (Nat.lt_of_lt_of_le hgl hK1.size) hdl h1v hone).mono fun v w' ⟨e1,w1,k1,e2⟩=>?_
   subst e1; subst e2
   rw [eo,CH (cells:=cells) (by omega) hvl htk]
   have hs1:∀ b ∈ [w.heap.size],b ∈ ([]:List Nat)\/w.heap.size<=b:=fun b hb=>.inr (by rw [List.mem_singleton] at hb; omega)
   have hk:Kp [] w (w1.setRow w.heap.size (cells.take (i*2)++cys++cells.drop (i*2)++cur.drop (i*2+2+(cells.drop (i*2)).length)).toArray):=((hK1.step (Kp.setRow W1 w.heap.size _) hs1).step k1 (by simp)).step (Kp.setRow w1 w.heap.size _) hs1
   have hg1:=(k1.block w.heap.size (by simpa using aW hrow) (by simp)).trans (setRow_heap W1 w.heap.size _ (cur.take (i*2)++cys++cur.drop (i*2+cys.length)).toArray 51 _ hrow)
   exact fin [] w.heap.size GC _ _ hk (by simp) (.inr (Nat.le_refl _)) (setRow_heap w1 w.heap.size _ _ 51 _ hg1) (by rw [List.length_drop]; omega) hge hgm
theorem oI (i:Int) (l m:List (den (.nm .opn))) (h:0<=i/\i<=(l.length:Int)) (hl:l.length<1048576) (hm:m.length=1):Sat Try.prog (av aL) 74 [.c (.own 0),.c (.int i),.c (.fz (.nm .opn) m)] [.row 51 (.nm .opn) l] ⟨[0<=i/\i<=(l.length:Int),l.length<1048576,m.length=1],[.c (.own 0)],some [.row 51 (.nm .opn) (l.take i.toNat++m++l.drop i.toNat)],false⟩:=by
 refine ⟨⟨_,Try.func74,by decide,rfl⟩,fun G ρ w vs hs hR hvs=>?_⟩
 obtain ⟨i,rfl⟩:=Int.eq_ofNat_of_zero_le h.1
 cases hvs with | cons h0 hvs=>
 cases hvs with | cons h1 hvs=>
 cases hvs with | cons h2 hvs=>
 cases hvs
 have h1:Pd (cx G ρ w) (.int (i:Int)) _:=h1
 cases h1
 have h0:Rd (cx G ρ w) ρ (.own 0) _:=h0
 have h2:Rd (cx G ρ w) ρ (.fz (.nm .opn) m) _:=h2
 have hH:getO [AO.row 51 (.nm .opn) l] 0 = .row 51 (.nm .opn) l:=rfl
 have hbv:(AV.vw [AO.row 51 (.nm .opn) l] (.fz (.nm .opn) m)).e_ (.nm .opn)=some m:=by simp [AV.vw,AV.e_,getO]
 obtain ⟨A,k,cys,rfl,s1,s2,s3,s4⟩:=lR hR hbv h2
 rw [hm] at h2 s1 s3
 rw [hm]
 obtain ⟨ad,rfl,s5⟩:∃ ad,A=some ad/\CellsAt w ad cys:=s3.resolve_left (by decide)
 have hz:(Sh.nm NT.opn).size=2:=rfl
 rw [hz] at s1
 obtain ⟨u,hu⟩:∃ u,cys[0]? = some u:=⟨_,List.getElem?_eq_getElem (by omega)⟩
 obtain ⟨cur,t,f,hc,hc0⟩:=nM (s5 0 u hu)
 have hne:∀ g c n z,ρ[0]? = some (.row g c n z)->ad.block≠g:=fun g c n z hg e=>by
  have h2:Pd (cx G ρ w) (.fz (.nm .opn) m) (.slice (some ad) 1 k):=h2
  have h3:=DJ h2 (by rw [hm]; decide)
  exact h3.1.2.1 ⟨0,_,hg,by rw [e]; rfl⟩
 rw [eW] at hc
 refine (sH hs hR hH hl (by omega) h0 hm h2 hbv s5 s1 s2 s4 hne hc hc0).mono fun v w' ⟨ρ',k1,k2,k3⟩=>?_
 exact ⟨[v],rfl,ρ',k2,k1.ext,k1.bx,.cons k3 .nil,fun hb=>by cases hb⟩
theorem x_:(Builtin.zeroCells (Value.agg #[.int .i64 0,.int .i64 0]).cells 1).toList=[.int .i64 0,.int .i64 0]:=by kernel_rfl
set_option maxRecDepth 100000 in
set_option maxHeartbeats 1000000 in
theorem zj {w:World} {g n i c:Nat} {cur ds:List Value} {ti:TypeInfo} (hi:i<n) (hnc:n<=c) (hcm:c<=maxLen) (hg:w.heap[g]? = some (.cells cur.toArray 51 (0,0))) (hcur:n*2<=cur.length) (hdl:ds.length=(n - (i+1))*2) (hd:CellsAt w (if c=i+1 then ⟨g,0,none⟩ else (⟨g,0,none⟩:Addr).add ((i+1)*2)) ds) (h1d:∀ u ∈ ds,u.oneCell' = true)
  (hi0:Try.prog.info? 51=some ti) (hz0:ti.zero=some (.agg #[.int .i64 0,.int .i64 0])) (hz1:ti.size=2) :
  gE Try.prog 77 [.slice (some ⟨g,0,none⟩) n c,.int .i64 (i:Int),.int .i64 ((i+1:Nat):Int)].toArray w fun v w'=>v = .slice (some ⟨g,0,none⟩) (i+(n - (i+1))) c/\∃ w1,Kp [] w w1/\w' = (w1.setRow g (cur.take (i*ti.size)++ds++cur.drop (i*ti.size+ds.length)).toArray).setRow g ((cur.take (i*ti.size)++ds++cur.drop (i*ti.size+ds.length)).take ((i+(n - (i+1)))*2)++(Builtin.zeroCells (Value.agg #[.int .i64 0,.int .i64 0]).cells 1).toList++(cur.take (i*ti.size)++ds++cur.drop (i*ti.size+ds.length)).drop ((i+(n - (i+1)))*2+(Builtin.zeroCells (Value.agg #[.int .i64 0,.int .i64 0]).cells 1).toList.length)).toArray:=by
 have hcm:c<=9223372036854775807:=hcm
 refine gE.enter Try.func77 rfl rfl rfl rfl ?_
 refine WC.seq ?_
 refine WC.region ?_
 refine WO.v (R.assign rfl) rfl ?_
 refine WO.nil ?_
 refine WX.next ?_
 refine WC.seq ?_
 refine WC.region ?_
 refine WO.v (R.move rfl) rfl ?_
 refine WO.v (R.move rfl) rfl ?_
 refine WO.v (R.move rfl) rfl ?_
 refine WO.v (R.move rfl) rfl ?_
 refine WO.v (R.len rfl Try.underlying23) rfl ?_
 refine WO.v (R.slice3 rfl rfl rfl rfl Try.underlying23 cc (by omega) (by omega) (by omega)) rfl ?_
 refine WO.nil ?_
 refine WX.next ?_
 refine WC.seq ?_
 refine WC.seq ?_
 refine WC.region ?_
 refine WO.v (R.move rfl) rfl ?_
 refine WO.v (R.move rfl) rfl ?_
 refine WO.v (R.eql rfl rfl) rfl ?_
 refine WO.nil ?_
 refine WX.next ?_
 refine WC.cond rfl (fun q=>absurd (of_decide_eq_true q) (by omega)) (fun _=>?_)
 refine WC.skip ?_
 refine WX.next ?_
 refine WC.seq ?_
 refine WC.region ?_
 refine WO.v (R.move rfl) rfl ?_
 refine WO.v (R.len rfl Try.underlying23) rfl ?_
 refine WO.v (R.assign rfl) rfl ?_
 refine WO.nil ?_
 refine WX.next ?_
 refine WC.seq ?_
 refine WC.nL fN [.ex [] (.slice (some ⟨g,0,none⟩) n c),.ex [] (.int .i64 ((i:Nat):Int)),.ex [0,1] (.slice (some ⟨g,0*2,none⟩) (i - 0) (c - 0)),.ex [] (.slice (some ⟨g,0,none⟩) n c),.ex [] (.int .i64 ((i+1:Nat):Int)),.ex [3,4] (.slice (some (if c=i+1 then ⟨g,0,none⟩ else (⟨g,0,none⟩:Addr).add ((i+1)*2))) (n - (i+1)) (c - (i+1)))] 6 (by kernel_rfl) ⟨fun _ _ _ h _=>h,fun _ _ _ h _=>h,fun _ _ _ h _=>h,fun _ _ _ h _=>h,fun _ _ _ h _=>h,fun _ _ _ h _=>h,trivial⟩ ⟨?_,?_,?_,?_,?_,?_,trivial⟩ ?_
 ·rintro vs wd kd ⟨-⟩
  refine WO.bm (fr':=[(0,.slice (some ⟨g,0,none⟩) n c)]) ⟨⟨_,rfl,rfl⟩,trivial⟩ ?_
  refine WO.v (R.move rfl) rfl ?_
  refine WO.nil ?_
  exact WX.aI rfl rfl (Kp.refl _)
 ·rintro vs wd kd ⟨-⟩
  refine WO.bm (fr':=[(1,.int .i64 ((i:Nat):Int))]) ⟨⟨_,rfl,rfl⟩,trivial⟩ ?_
  refine WO.v (R.move rfl) rfl ?_
  refine WO.nil ?_
  exact WX.aI rfl rfl (Kp.refl _)
 ·rintro vs wd kd ⟨e0,e1,-⟩
  refine WO.bm (fr':=[(20,.slice (some ⟨g,0,none⟩) n c),(21,.int .i64 ((i:Nat):Int))]) ⟨⟨_,rfl,e0⟩,⟨_,rfl,e1⟩,trivial⟩ ?_
  refine WO.v (R.jb rfl rfl Try.underlying23 cc (db (i:=0) (by omega)) (by omega)) rfl ?_
  refine WO.nil ?_
  exact WX.aI rfl rfl (Kp.refl _)
 ·rintro vs wd kd ⟨-⟩
  refine WO.bm (fr':=[(0,.slice (some ⟨g,0,none⟩) n c)]) ⟨⟨_,rfl,rfl⟩,trivial⟩ ?_
  refine WO.v (R.move rfl) rfl ?_
  refine WO.nil ?_
  exact WX.aI rfl rfl (Kp.refl _)
 ·rintro vs wd kd ⟨-⟩
  refine WO.bm (fr':=[(2,.int .i64 ((i+1:Nat):Int))]) ⟨⟨_,rfl,rfl⟩,trivial⟩ ?_
  refine WO.v (R.move rfl) rfl ?_
  refine WO.nil ?_
  exact WX.aI rfl rfl (Kp.refl _)
 ·rintro vs wd kd ⟨e3,e4,-⟩
  refine WO.bm (fr':=[(23,.slice (some ⟨g,0,none⟩) n c),(24,.int .i64 ((i+1:Nat):Int))]) ⟨⟨_,rfl,e3⟩,⟨_,rfl,e4⟩,trivial⟩ ?_
  refine WO.v (R.bW rfl rfl Try.underlying23 cc Er (by omega)) rfl ?_
  refine WO.nil ?_
  exact WX.aI rfl rfl (Kp.refl _)
 rintro vsx w1 k1 ⟨-,-,e2,-,-,e5,-⟩
 replace k1:Kp [] w w1:=k1
 refine WO.bm (fr':=[(22,.slice (some ⟨g,0*2,none⟩) (i - 0) (c - 0)),(25,.slice (some (if c=i+1 then ⟨g,0,none⟩ else (⟨g,0,none⟩:Addr).add ((i+1)*2))) (n - (i+1)) (c - (i+1))),(7,.int .i64 ((n:Nat):Int))]) ⟨⟨_,rfl,e2⟩,⟨_,rfl,e5⟩,⟨_,rfl,rfl⟩,trivial⟩ ?_
 have hg1:w1.heap[g]? = some (.cells (List.toArray cur) 51 (0,0)):=by rw [k1.block g (aW hg) (by simp)]; exact hg
 have hd1:CellsAt w1 (if c=i+1 then ⟨g,0,none⟩ else (⟨g,0,none⟩:Addr).add ((i+1)*2)) ds:=hd.keep (k1.block _ (by split <;> exact aW hg) (by simp))
 refine WO.v (R.BP (sl:=i) (sc:=c) rfl rfl Try.underlying23 hi0 hg1 (by rw [hz1]; exact hdl) hd1 h1d (by omega) (by rw [hz1]; omega)) rfl ?_
 refine WO.v (R.assign rfl) rfl ?_
 refine WO.nil ?_
 refine WX.next ?_
 have hg2:=setRow_heap w1 g _ (cur.take (i*ti.size)++ds++cur.drop (i*ti.size+ds.length)).toArray 51 _ hg1
 refine WC.seq ?_
 refine WC.region ?_
 refine WO.v (R.move rfl) rfl ?_
 refine WO.v (R.move rfl) rfl ?_
 refine WO.v (R.len rfl Try.underlying23) rfl ?_
 refine WO.v (R.move rfl) rfl ?_
 refine WO.v (R.tO rfl rfl rfl Try.underlying23 cc (db (by omega)) (by omega) (by omega)) rfl ?_
 refine WO.v0 (R.Hv rfl (by omega) Try.underlying23 hi0 hz0 (by rw [x_]; simp [Value.oneCell']) hg2 (by rw [lj,hz1]; simp only [List.length_append,List.length_take,List.length_drop]; show _+1*2<=_; omega)) ?_
 refine WO.nil ?_
 refine WX.next ?_
 refine WC.seq ?_
 refine WC.region ?_
 refine WO.v (R.move rfl) rfl ?_
 refine WO.v (R.assign rfl) rfl ?_
 refine WO.nil ?_
 refine WX.next ?_
 refine WC.ret ?_
 refine WX.rZ rfl rfl ?_
 exact ⟨rfl,w1,k1,rfl⟩
theorem rE (i j:Int) (l:List (den (.nm .opn))) (h:0<=i/\i<(l.length:Int)/\j=i+1):Sat Try.prog (av aL) 77 [.c (.own 0),.c (.int i),.c (.int j)] [.row 51 (.nm .opn) l] ⟨[0<=i/\i<(l.length:Int)/\j=i+1],[.c (.own 0)],some [.row 51 (.nm .opn) (l.take i.toNat++l.drop j.toNat)],false⟩:=by
 refine ⟨⟨_,Try.func77,by decide,rfl⟩,fun G ρ w vs hs hR hvs=>?_⟩
 obtain ⟨hi0,hi1,rfl⟩:=h
 obtain ⟨i,rfl⟩:=Int.eq_ofNat_of_zero_le hi0
 have hlt:i<l.length:=by omega
 cases hvs with | cons h0 hvs=>
 cases hvs with | cons h1 hvs=>
 cases hvs with | cons h2 hvs=>
 cases hvs
 have h1:Pd (cx G ρ w) (.int (i:Int)) _:=h1
 have h2:Pd (cx G ρ w) (.int ((i:Int)+1)) _:=h2
 cases h1
 cases h2
 have h0:Rd (cx G ρ w) ρ (.own 0) _:=h0
 have hH:getO [AO.row 51 (.nm .opn) l] 0 = .row 51 (.nm .opn) l:=rfl
 obtain ⟨hshp,hlen⟩:=cG hR hH
 rcases bl hR hH with ⟨_,h2⟩ | ⟨g,cap,cells,sp,hρ,hg,hpd,hsz,hcap,hmax⟩
 ·subst h2; simp at hlt
 obtain ⟨hnb,hil,hiH⟩:=js hR hH
 have hz:(Sh.nm NT.opn).size=2:=rfl
 have hby:(Sh.nm NT.opn).bytes=16:=rfl
 have hcl:cells.length=l.length*2:=by rw [<- hpd.length,bD,hz]
 rw [hz,List.length_append] at hsz
 rw [hby] at hlen
 obtain ⟨ti,hi0,hz0,hz1,hz2⟩:=info_parts tJ
 have hone:∀ u ∈ cells.drop ((i+1)*2),u.oneCell' = true:=fun u hu=>hpd.zx u (List.mem_of_mem_drop hu)
 have hd:CellsAt w (if cap=i+1 then ⟨g,0,none⟩ else (⟨g,0,none⟩:Addr).add ((i+1)*2)) (cells.drop ((i+1)*2)):=by
  split
  ·rw [List.drop_of_length_le (by omega)]; exact CellsAt.nil
  ·exact (bQ hg).shift _
 have hv0:∀ v,Rd (cx G ρ w) ρ (.own 0) v->v = .slice (some ⟨g,0,none⟩) l.length cap:=fun v h0=>by
  rcases h0 with ⟨g',cap',len,z,h1,rfl⟩ | ⟨h1,a,rfl⟩
  ·rw [hρ] at h1; cases h1; rfl
  ·rw [hρ] at h1; cases h1
 obtain rfl:=hv0 _ h0
 have e0:((i:Int)+1)=((i+1:Nat):Int):=by omega
 rw [e0]
 refine (zj hlt hcap hmax hg (by rw [List.length_append]; omega) (by rw [List.length_drop,hcl]; omega) hd hone hi0 hz0 hz1).mono fun v w' ⟨e1,w1,k1,e2⟩=>?_
 subst e1
 have hq:i+(l.length - (i+1))=l.length - 1:=by omega
 rw [hq,hz1,x_] at e2
 rw [hq]
 have hzl:(l.take i++l.drop (i+1)).length=l.length - 1:=by rw [List.length_append,List.length_take,List.length_drop]; omega
 have hnl:(cells.take (i*2)++cells.drop ((i+1)*2)).length=(l.length - 1)*2:=by rw [List.length_append,List.length_take,List.length_drop]; omega
 have htk:((cells++sp).take (i*2)++cells.drop ((i+1)*2)++(cells++sp).drop (i*2+(cells.drop ((i+1)*2)).length)).take ((l.length - 1)*2)=cells.take (i*2)++cells.drop ((i+1)*2):=by
  rw [List.take_append_of_le_length (l₁:=cells) (by omega)]
  exact List.take_left' hnl
 have hr1l:((cells++sp).take (i*2)++cells.drop ((i+1)*2)++(cells++sp).drop (i*2+(cells.drop ((i+1)*2)).length)).length=cap*2:=by
  simp only [List.length_append,List.length_drop,List.length_take]
  omega
 generalize (cells++sp).take (i*2)++cells.drop ((i+1)*2)++(cells++sp).drop (i*2+(cells.drop ((i+1)*2)).length)=r1 at e2 htk hr1l
 rw [htk,List.append_assoc] at e2
 generalize hsp2:([.int .i64 0,.int .i64 0]:List Value)++List.drop ((l.length - 1)*2+([.int .i64 0,.int .i64 0]:List Value).length) r1=sp2 at e2
 have hlen2:(l.length - 1)*2+sp2.length=cap*2:=by
  rw [<- hsp2]
  simp only [List.length_append,List.length_cons,List.length_nil,List.length_drop]
  omega
 have hg1:w1.heap[g]? = some (.cells (List.toArray (cells++sp)) 51 (0,0)):=by rw [k1.block g (aW hg) (by simp)]; exact hg
 have hh:=setRow_heap _ g _ (cells.take (i*2)++cells.drop ((i+1)*2)++sp2).toArray 51 _ (setRow_heap w1 g _ r1.toArray 51 _ hg1)
 have hk:=((k1.sub (T:=[g]) (by simp)).step (Kp.setRow w1 g r1.toArray) (by simp)).step (Kp.setRow _ g (cells.take (i*2)++cells.drop ((i+1)*2)++sp2).toArray) (by simp)
 subst e2
 obtain ⟨k2,k3,_⟩:=iJ (ro:=vT 0) (s':=.nm .opn) (e':=51) (zs:=l.take i++l.drop (i+1)) hR hH ⟨rfl,rfl⟩ hk (fun b hb=>⟨_,hρ,by rw [List.mem_singleton] at hb; subst hb; rfl⟩) (r':=.row g cap (l.take i++l.drop (i+1)).length (Sh.nm NT.opn).size) (fun b hb=>by
  cases hb; exact .inl ⟨_,hρ,rfl⟩) (fun hle=>⟨hshp,by rw [hzl,hby]; omega,.inr ⟨g,cap,_,sp2,rfl,hh,by
   rw [List.flatMap_append]; exact ((bA hpd i).append (bH hpd (i+1))).carry hle,by rw [List.length_append,hnl,hz]; exact hlen2,by omega,hmax⟩⟩)
 exact ⟨[_],rfl,_,k3,k2.ext,k2.bx,.cons (.inl ⟨g,cap,_,_,List.getElem?_set_self hil,by rw [hzl]⟩) .nil,fun hb=>by cases hb⟩
end Go.Proofs.Ytmmbibcfkdabeaa
namespace Go.Proofs.Ytmmbibcfkdabeaa
open Go.RowKit
def nd {β:Type} (z:β) (k:Int):List (Int × β)->β
 | []=>z
 | p :: r=>if k=p.1 then p.2 else nd z k r
end Go.Proofs.Ytmmbibcfkdabeaa
namespace Go.Proofs.Ytmmbibcfkdabeaa
open Go.RowKit
theorem aF {α:Type} {l:List α} {k:Nat} {x:α} (hx:l[k]? = some x):l.take (k+1)=l.take k++[x]:=by
 rw [List.take_add_one,hx]; rfl
end Go.Proofs.Ytmmbibcfkdabeaa
namespace Go.Proofs.Ytmmbibcfkdabeaa
open Go.RowKit
end Go.Proofs.Ytmmbibcfkdabeaa
namespace Go.Proofs.Ytmmbibcfkdabeaa
open Go.RowKit
theorem sM {α:Type} [DecidableEq α] {l m:List α} (h:¬ ((l.length:Nat):Int)=((m.length:Nat):Int)):false=decide (l=m):=by
 symm; apply decide_eq_false; rintro rfl; exact h rfl
theorem mA {α:Type} [DecidableEq α] {l m:List α} {k:Nat} (hl:l.length=m.length) (h:l.take k=m.take k) (hk:l.length<=k):true=decide (l=m):=by
 symm; apply decide_eq_true
 rwa [List.take_of_length_le hk,List.take_of_length_le (by omega)] at h
def cg (n a b:Int):Bool:=decide (a<=n) && decide (n<=b)
def ai {α:Type} (key:α->Int) (most:Int):Int->List α->Bool
 | _,[]=>true
 | a,x :: r=>cg (key x) (a+1) most && ai key most (key x) r
def br {α:Type} (key:α->Int) (a:Int) (l:List α):Int:=l.foldl (fun _ x=>key x) a
theorem fR {α:Type} {key:α->Int} {most:Int} {x:α}:∀ (p:List α) (a:Int),ai key most a (p++[x])=(ai key most a p && cg (key x) (br key a p+1) most)
 | [],a=>by simp [ai,br]
 | y :: p,a=>by
  rw [List.cons_append,ai,ai,fR p,Bool.and_assoc]; rfl
theorem gG {α:Type} {key:α->Int} {most:Int} (q:List α):∀ (p:List α) (a:Int),ai key most a (p++q)=true->ai key most a p=true
 | [],a,_=>rfl
 | y :: p,a,h=>by
  rw [List.cons_append,ai,Bool.and_eq_true] at h
  rw [ai,Bool.and_eq_true]
  exact ⟨h.1,gG q p _ h.2⟩
theorem bN {α:Type} {key:α->Int} {a:Int} {l:List α} {k:Nat} {x:α} (hx:l[k]? = some x):key x=br key a (l.take (k+1)):=by
 rw [aF hx,br,List.foldl_append]; rfl
theorem jX {α:Type} {key:α->Int} {most a:Int} {l:List α} {k:Nat} {x:α} (h:ai key most a (l.take k)=true) (hx:l[k]? = some x) (h1:br key a (l.take k)<key x) (h2:key x<=most):ai key most a (l.take (k+1))=true:=by
 rw [aF hx,fR,h,Bool.true_and,cg,Bool.and_eq_true,decide_eq_true_eq,decide_eq_true_eq]
 exact ⟨by omega,h2⟩
theorem jR {α:Type} {key:α->Int} {most a:Int} {l:List α} {k:Nat} {x:α} (hx:l[k]? = some x) (h:¬ (br key a (l.take k)<key x/\key x<=most)):ai key most a l=false:=by
 cases hr:ai key most a l with
 | false=>rfl
 | true=>
  have h1:=gG (l.drop (k+1)) (l.take (k+1)) a (by rw [List.take_append_drop]; exact hr)
  rw [aF hx,fR,Bool.and_eq_true,cg,Bool.and_eq_true,decide_eq_true_eq,decide_eq_true_eq] at h1
  exact absurd ⟨by omega,h1.2.2⟩ h
theorem jS {α:Type} {key:α->Int} {most a:Int} {l:List α} {k:Nat} (h:ai key most a (l.take k)=true) (hk:l.length<=k):ai key most a l=true:=by
 rwa [List.take_of_length_le hk] at h
def dh (l:List Int):Bool:=(decide ((1:Int)<=((l.length:Nat):Int)) && decide (((l.length:Nat):Int)<=8)) && ai id 64 0 l
theorem jE {l:List Int} {k:Nat} {x:Int} (hx:l[k]? = some x) (h:¬ (br id 0 (l.take k)<x/\x<=64)):false=dh l:=by
 rw [dh,jR (key:=id) hx h,Bool.and_false]
theorem gJ {l:List Int} {k:Nat} (h:ai id 64 0 (l.take k)=true) (hk:l.length<=k) (hl:1<=l.length/\l.length<=8):true=dh l:=by
 rw [dh,jS h hk,Bool.and_true]; symm; rw [Bool.and_eq_true,decide_eq_true_eq,decide_eq_true_eq]; omega
theorem lT {l:List Int} (hl:¬ (1<=l.length/\l.length<=8)):false=dh l:=by
 symm
 rw [dh,Bool.and_eq_false_iff]; left
 rw [Bool.and_eq_false_iff,decide_eq_false_iff_not,decide_eq_false_iff_not]; omega
end Go.Proofs.Ytmmbibcfkdabeaa
namespace Go.Proofs.Ytmmbibcfkdabeaa
open Go.RowKit
def bJ (x:Sess):Bool:=(cg x.seq 0 1048576 && cg x.last.code 0 99) && cg x.last.n 0 1048576
def bO (x:Opn):Bool:=cg x.client 1 8
theorem dm {α:Type} {p:α->Bool} {l:List α} {k:Nat} {x:α} (h:(l.take k).all p=true) (hx:l[k]? = some x) (hp:p x=true):(l.take (k+1)).all p=true:=by
 rw [aF hx,List.all_append,h]; simp [hp]
theorem zL {α:Type} {p:α->Bool} {l:List α} {k:Nat} {x:α} (hx:l[k]? = some x) (hp:p x=false):l.all p=false:=by
 rw [List.all_eq_false]; exact ⟨x,List.mem_of_getElem? hx,by simp [hp]⟩
theorem yN {α:Type} {p:α->Bool} {l:List α} {k:Nat} (h:(l.take k).all p=true) (hk:l.length<=k):l.all p=true:=by
 rwa [List.take_of_length_le hk] at h
end Go.Proofs.Ytmmbibcfkdabeaa
namespace Go.Proofs.Ytmmbibcfkdabeaa
open Go.RowKit
def aV (n:Nat):Nat:=if h:n<128 then 1 else aV (n / 128)+1
termination_by n
decreasing_by omega
theorem mi {n:Nat} (h:¬ n<128):aV n=aV (n / 128)+1:=by rw [aV,dif_neg h]
theorem hX {n:Nat} (h:n<128):aV n=1:=by rw [aV,dif_pos h]
theorem gC (n:Nat):1<=aV n:=by rw [aV]; split <;> omega
theorem p_:∀ (k n:Nat),n<128 ^ (k+1)->aV n<=k+1
 | 0,n,h=>by rw [hX (by simpa using h)]; omega
 | k+1,n,h=>by
  by_cases hn:n<128
  ·rw [hX hn]; omega
  ·rw [mi hn]
   have:=p_ k (n / 128) (by rw [Nat.div_lt_iff_lt_mul (by omega),<- Nat.pow_succ]; exact h)
   omega
theorem mF {n:Nat} (h:n<18446744073709551616):aV n<=10:=p_ 9 n (Nat.lt_of_lt_of_le h (by decide))
def BG (n i:Nat):UInt8:=UInt8.ofNat (n / 128 ^ i) ||| 128
def dr (n k:Nat):List UInt8:=(List.range k).map (BG n)++List.replicate (aV n - k) 0
def mo (n:Nat):List UInt8:=(dr n (aV n)).set (aV n - 1) (BG n (aV n - 1) &&& 127)
theorem eN {n k:Nat} (h:k<=aV n):(dr n k).length=aV n:=by simp [dr]; omega
theorem sL {n k:Nat} (h:k<aV n):(dr n k).set k (BG n k)=dr n (k+1):=by
 unfold dr
 rw [List.set_append_right _ _ (by simp),List.range_succ,List.map_append,List.append_assoc]
 congr 1
 obtain ⟨j,hj⟩:∃ j,aV n - k=j+1:=⟨aV n - k - 1,by omega⟩
 rw [hj,show aV n - (k+1)=j by omega]
 simp [List.replicate_succ]
theorem g_ (n:Nat):List.replicate (aV n) (0:UInt8)=dr n 0:=by simp [dr]
theorem sG {n:Nat} {x:UInt8} (h:(dr n (aV n))[aV n - 1]? = some x):x=BG n (aV n - 1):=by
 have hp:=gC n
 unfold dr at h
 rw [List.getElem?_append_left (by simp; omega)] at h
 simp only [List.getElem?_map,List.getElem?_range (show aV n - 1<aV n by omega),Option.map_some,Option.some.injEq] at h
 exact h.symm
theorem div_pow {n k:Nat}:n / 128 ^ k / 2 ^ 7=n / 128 ^ (k+1):=by show n / 128 ^ k / 128=_; rw [Nat.div_div_eq_div_mul,Nat.pow_succ]
theorem wL (n:Nat):(mo n).length=aV n:=by rw [mo,List.length_set,eN (Nat.le_refl _)]
theorem kV {n:Nat} (h:n<18446744073709551616):(mo n).length<=10:=by rw [wL]; exact mF h
def ef (l:List Int):List UInt8:=l.flatMap fun x=>mo x.toNat
theorem jn {l:List Int} {k:Nat} {x:Int} (hx:l[k]? = some x):ef (l.take k)++mo x.toNat=ef (l.take (k+1)):=by
 rw [aF hx]; simp [ef]
theorem xe {l:List Int} (h:∀ x ∈ l,x<=64):(ef l).length<=10*l.length:=by
 induction l with
 | nil=>simp [ef]
 | cons a l ih=>
  have h1:=ih fun x hx=>h x (List.mem_cons_of_mem _ hx)
  have h2:=kV (n:=a.toNat) (by have:=h a (by simp); omega)
  simp only [ef,List.flatMap_cons,List.length_append,List.length_cons] at *
  omega
theorem sC {l:List Int} (h:dh l=true):∀ x ∈ l,0<x/\x<=64:=by
 rw [dh,Bool.and_eq_true] at h
 have:∀ (l:List Int) (a:Int),0<=a->ai id 64 a l=true->∀ x ∈ l,0<x/\x<=64:=by
  intro l
  induction l with
  | nil=>intro a _ _ x hx; cases hx
  | cons y l ih=>
   intro a ha hl x hx
   rw [ai,Bool.and_eq_true,cg,Bool.and_eq_true,decide_eq_true_eq,decide_eq_true_eq] at hl
   have h1:a+1<=y:=hl.1.1
   have h2:y<=64:=hl.1.2
   rcases List.mem_cons.1 hx with rfl | hx
   ·omega
   ·exact ih (id y) (by show 0<=y; omega) hl.2 x hx
 exact this l 0 (by omega) h.2
theorem oT {l:List Int} (h:dh l=true):1<=l.length/\l.length<=8:=by
 rw [dh,Bool.and_eq_true,Bool.and_eq_true,decide_eq_true_eq,decide_eq_true_eq] at h
 omega
def fg (l:List Int):List UInt8:=if dh l then ef l else []
def cR (l:List Int):Int:=if dh l then 0 else 1
theorem lP {l:List Int} {k:Nat} (hr:dh l=true) (hk:l.length<=k):ef (l.take k)=fg l:=by rw [List.take_of_length_le hk,fg,if_pos hr]
theorem jJ {l:List Int} (hr:dh l=false):[]=fg l:=by rw [fg,hr]; rfl
theorem eA {l:List Int} (hr:dh l=true):0=cR l:=by rw [cR,hr]; rfl
theorem fb {l:List Int} (hr:dh l=false):1=cR l:=by rw [cR,hr]; rfl
end Go.Proofs.Ytmmbibcfkdabeaa
namespace Go.Proofs.Ytmmbibcfkdabeaa
open Go.RowKit
def bk (v t:Int) (x:Snap):Bool:=((decide (cR x.chunks=0) && cg x.set 1 8) && (!x.held || decide (2<=v))) && decide (((x.tag.b.length:Nat):Int)<=t)
def dC (v:Int):Int:=if v<3 then 0 else 16
def dj (s:State) (v:Int):Bool:=!(decide (16<((s.snaps.length:Nat):Int)) || !(ai Snap.id (s.next - 1) 0 s.snaps)) && s.snaps.all (bk v (dC v))
def cO (s:State) (v:Int):Bool:=((cg s.version 1 3 && cg s.next 1 1048576) && cg s.keep 0 8) && cg s.quota 0 (if v<3 then 0 else 64)
def mE (s:State):Bool:=ai Sess.client 8 0 s.sess && s.sess.all bJ
def jw (s:State):Bool:=ai Opn.set 8 0 s.opens && s.opens.all bO
def mayF (s:State) (v:Int):Int:=if !(cg v 1 3) then 1 else if (((!cO s v || !mE s) || !jw s) || !dj s v) then 6 else 0
end Go.Proofs.Ytmmbibcfkdabeaa
namespace Go.Proofs.Ytmmbibcfkdabeaa
open Go.RowKit
end Go.Proofs.Ytmmbibcfkdabeaa
namespace Go.Proofs.Ytmmbibcfkdabeaa
open Go.RowKit
end Go.Proofs.Ytmmbibcfkdabeaa
namespace Go.Proofs.Ytmmbibcfkdabeaa
open Go.RowKit
end Go.Proofs.Ytmmbibcfkdabeaa
namespace Go.Proofs.Ytmmbibcfkdabeaa
open Go.RowKit
def eU (k:Int):Int:=nd 0 k [((1:Int),(1:Int)),((2:Int),(1:Int)),((3:Int),(1:Int)),((4:Int),(1:Int)),((5:Int),(1:Int)),((6:Int),(1:Int)),((7:Int),(1:Int)),((8:Int),(1:Int)),((9:Int),(2:Int)),((10:Int),(2:Int)),((11:Int),(3:Int)),((12:Int),(3:Int))]
theorem pn {n a b:Int} (h:cg n a b=true):a<=n/\n<=b:=by unfold cg at h; rw [Bool.and_eq_true,decide_eq_true_eq,decide_eq_true_eq] at h; exact h
theorem Hu {n a b:Int} (h:cg n a b=false):¬ (a<=n/\n<=b):=fun h2=>by
 have:cg n a b=true:=by unfold cg; rw [Bool.and_eq_true,decide_eq_true_eq,decide_eq_true_eq]; exact h2
 rw [h] at this; cases this
def eP (x:Int) (l:List Int):Int:=match l.findIdx? (fun y=>decide (x=y)) with | some i=>(i:Int) | none=>-1
theorem xp {x y:Int} {l:List Int} {k:Nat} (h:∀ j y,j<k->l[j]? = some y->¬ x=y) (hy:l[k]? = some y) (hxy:x=y):(k:Int)=eP x l:=by
 have:l.findIdx? (fun y=>decide (x=y))=some k:=by
  obtain ⟨hk,rfl⟩:=List.getElem?_eq_some_iff.1 hy
  rw [List.findIdx?_eq_some_iff_getElem]
  exact ⟨hk,decide_eq_true hxy,fun j hj=>by simpa using h j _ hj (List.getElem?_eq_getElem (by omega))⟩
 simp [eP,this]
theorem uv (x:Int) (l:List Int):decide (0<=eP x l)=l.contains x:=by
 unfold eP
 cases h:l.findIdx? (fun y=>decide (x=y)) with
 | none=>
  rw [List.findIdx?_eq_none_iff] at h
  have:l.contains x=false:=by
   rw [<- Bool.not_eq_true,List.contains_iff_mem]
   intro hm; have:=h x hm; simp at this
  rw [this]; rfl
 | some i=>
  rw [List.findIdx?_eq_some_iff_getElem] at h
  obtain ⟨hi,hp,_⟩:=h
  have:l.contains x=true:=by
   rw [List.contains_iff_mem,of_decide_eq_true hp]; exact List.getElem_mem hi
  rw [this]; simp
def fF (n most:Int) (named:Bool):Bool:=if named then (decide (1<=n) && decide (n<=most)) else decide (n=0)
def jY (k:Int):Int × Int:=nd (0,0) k [((6:Int),((0:Int),(8:Int))),((8:Int),((2:Int),(3:Int))),((12:Int),((0:Int),(64:Int)))]
def Ft (c:Command):Bool:=if c.kind=3 then dh c.chunks else decide (((c.chunks.length:Nat):Int)=0)
def EX (c:Command):Bool:=if c.kind=11 then decide (((c.text.b.length:Nat):Int)<=16) else decide (c.text=⟨[]⟩)
def dM (c:Command):Bool:=((((((((decide ((jY c.kind).1<=c.n) && decide (c.n<=(jY c.kind).2)) && Ft c) && EX c) && fF c.client 8 (!([(8:Int)].contains c.kind))) && fF c.seq 1048576 (!([(1:Int),8].contains c.kind))) && fF c.set 8 ([(2:Int),3,4].contains c.kind)) && fF c.id 1048576 ([(5:Int),7,9,10,11].contains c.kind)))
def bE (c:Command) (v:Int):Int:=if !(cg v 1 3) || decide (eU c.kind=0) then 1 else if v<eU c.kind then 10 else if !dM c then 1 else 0
end Go.Proofs.Ytmmbibcfkdabeaa
namespace Go.Proofs.Ytmmbibcfkdabeaa
open Go.RowKit
end Go.Proofs.Ytmmbibcfkdabeaa
namespace Go.Proofs.Ytmmbibcfkdabeaa
open Go.RowKit
end Go.Proofs.Ytmmbibcfkdabeaa
namespace Go.Proofs.Ytmmbibcfkdabeaa
open Go.RowKit
def jD (k:Int):Bool:=decide (1<=k) && decide (k<=3)
theorem uN {α:Type} {a b:List α} {k:Nat} {d:α} (h:a.take k=b.take k) (ha:k<a.length) (hb:k<b.length) (e:a.getD k d=b.getD k d):a.take (k+1)=b.take (k+1):=by
 have h1:a[k]? = some (a.getD k d):=by rw [List.getD_eq_getElem?_getD,List.getElem?_eq_getElem ha]; rfl
 have h2:b[k]? = some (b.getD k d):=by rw [List.getD_eq_getElem?_getD,List.getElem?_eq_getElem hb]; rfl
 rw [aF h1,aF h2,h,e]
theorem qM {s:Str} {n:Nat} (h:(s.b.length:Int)<=n):s=⟨s.b.take n⟩:=by
 cases s; rw [List.take_of_length_le (by simpa using h)]
theorem Ex {l:List Int} {k:Nat} {x:Int} (hx:l[k]? = some x):x=br id 0 (l.take (k+1)):=bN (key:=id) hx
theorem zt {l:List Int} {k:Nat} {x:Int} (h:ai id 64 0 (l.take k)=true) (hx:l[k]? = some x) (h1:br id 0 (l.take k)<x) (h2:x<=64):ai id 64 0 (l.take (k+1))=true:=jX (key:=id) h hx (by dsimp only [id]; omega) (by dsimp only [id]; omega)
def Fw (l:List Int):List (Nat × LI):=[(5,{ σ:=Nat,F:=fun k=>([(3,one (.int (br id 0 (l.take k)))),(14,one (.fz .int (l))),(15,one (.int (l).length)),(16,one (.int k))],[]),J:=fun k=>k<=l.length/\ai id 64 0 (l.take k)=true/\1<=l.length/\l.length<=8,μ:=fun k=>(l).length - k })]
def Ci (a:List Int) (b:List Int):List (Nat × LI):=[(4,{ σ:=Nat,F:=fun k=>([(0,one (.fz .int (a))),(1,one (.fz .int (b))),(5,one (.int k))],[]),J:=fun k=>k<=a.length/\a.length=b.length/\a.take k=b.take k,μ:=fun k=>a.length - k })]
theorem Bc (k:Int) (r0:Bool):du aL ki [] Try.f93 [.c (.int (k))] [] [.c (.bool (.atom (r0)))]=(I64 k->(decide ((1:Int)<=k) && decide (k<=(3:Int)))=r0):=by kernel_rfl
theorem BJ (k:Int):Sat Try.prog (av aL) 93 [.c (.int (k))] [] ⟨[],[.c (.bool (.atom ((jD k))))],none,false⟩:=by
 refine aY de [] Try.func93 (by decide) (by kernel_rfl) ?_
 rw [Bc]
 grind [jD]
theorem Fg (l:List Int) (r0:Bool):du aL ki (Fw l) Try.f111 [.c (.fz .int (l))] [] [.c (.bool (.atom (r0)))]=((fun (q3:Int)=>(fun (q2:Int)=>(fun (q1:Nat)=>(fun (q0:Prop)=>l.length*(8:Nat)<=(140737488355328:Nat)->(q3<(1:Int)\/(8:Int)<q3->false=r0)/\((1:Int)<=q3/\q3<=(8:Int)->∃ (s0:Nat),(q2=br id q2 (List.take s0 l)/\l=l/\q3=(↑q1:Int)/\q2=(↑s0:Int))/\(s0<=q1/\ai id (64:Int) q2 (List.take s0 l)=true/\q0)/\∀ (s:Nat),s<=q1/\ai id (64:Int) q2 (List.take s l)=true/\q0->((↑s:Int)<(↑q1:Int)->q2<=(↑s:Int)/\(↑s:Int)<q3/\∀ (x:Int),l[s]? = some x->I64 x->(x<=br id q2 (List.take s l)\/(64:Int)<x->false=r0)/\(br id q2 (List.take s l)<x/\x<=(64:Int)->I64 ((↑s:Int)+(1:Int))/\∃ (s':Nat),(x=br id q2 (List.take s' l)/\l=l/\(↑q1:Int)=(↑q1:Int)/\(↑s:Int)+(1:Int)=(↑s':Int))/\(s' <= q1/\ai id (64:Int) q2 (List.take s' l)=true/\q0)/\q1 - s' < q1 - s))/\((↑q1:Int)<=(↑s:Int)->true=r0))) ((1:Nat)<=q1/\q1<=(8:Nat))) l.length) (0:Int)) (↑l.length:Int)):=by kernel_rfl
theorem FH (l:List Int):Sat Try.prog (av aL) 111 [.c (.fz .int (l))] [] ⟨[],[.c (.bool (.atom ((dh l))))],none,false⟩:=by
 refine aY de (Fw l) Try.func111 (by decide) (by kernel_rfl) ?_
 rw [Fg]
 (repeat' (first | refine And.intro ?_ ?_ | intro))
 all_goals try (grind [lT,jE,gJ,Ex,zt,ai,br])
 all_goals (refine ⟨0,?_⟩; (repeat' (first | refine And.intro ?_ ?_ | intro)))
 all_goals try (grind [lT,jE,gJ,Ex,zt,ai,br])
 all_goals (refine ⟨‹Nat› + 1,?_⟩; (repeat' (first | refine And.intro ?_ ?_ | intro)))
 all_goals grind [lT,jE,gJ,Ex,zt,ai,br]
theorem Ea (a:List Int) (b:List Int) (r0:Bool):du aL ki (Ci a b) Try.f20 [.c (.fz .int (a)),.c (.fz .int (b))] [] [.c (.bool (.atom (r0)))]=((fun (q1:Nat)=>(fun (q0:Int)=>a.length*(8:Nat)<=(140737488355328:Nat)->b.length*(8:Nat)<=(140737488355328:Nat)->(¬q0=(↑b.length:Int)->false=r0)/\(q0=(↑b.length:Int)->∃ (s0:Nat),(a=a/\b=b/\(0:Int)=(↑s0:Int))/\(s0<=q1/\q1=b.length/\List.take s0 a=List.take s0 b)/\∀ (s:Nat),(fun (q2:Prop)=>s<=q1/\q1=b.length/\List.take s a=List.take s b->((↑s:Int)<q0->(0:Int)<=(↑s:Int)/\(↑s:Int)<q0/\(0:Int)<=(↑s:Int)/\(↑s:Int)<(↑b.length:Int)/\(I64 (a.getD s (dflt Sh.int))->I64 (b.getD s (dflt Sh.int))->(¬q2->false=r0)/\(q2->I64 ((↑s:Int)+(1:Int))/\∃ (s':Nat),(a=a/\b=b/\(↑s:Int)+(1:Int)=(↑s':Int))/\(s' <= q1/\q1=b.length/\List.take s' a=List.take s' b)/\q1 - s' < q1 - s)))/\(q0<=(↑s:Int)->true=r0)) (a.getD s (dflt Sh.int)=b.getD s (dflt Sh.int)))) (↑a.length:Int)) a.length):=by kernel_rfl
theorem Dc (a:List Int) (b:List Int):Sat Try.prog (av aL) 20 [.c (.fz .int (a)),.c (.fz .int (b))] [] ⟨[],[.c (.bool (.atom ((decide (a=b)))))],none,false⟩:=by
 refine aY de (Ci a b) Try.func20 (by decide) (by kernel_rfl) ?_
 rw [Ea]
 (repeat' (first | refine And.intro ?_ ?_ | intro))
 all_goals try (grind [aF])
 all_goals (refine ⟨0,?_⟩; (repeat' (first | refine And.intro ?_ ?_ | intro)))
 all_goals try (grind [aF])
 all_goals (refine ⟨‹Nat› + 1,?_⟩; (repeat' (first | refine And.intro ?_ ?_ | intro)))
 all_goals first | exact uN (by grind) (by omega) (by omega) (by with_reducible assumption) | grind
theorem CP (x:Int) (r0:Int):du aL ki [] Try.f92 [.c (.int (x))] [] [.c (.int (r0))]=((fun (q0:Option (den Sh.int))=>I64 x->((fun (j:Int)=>if j=(12:Int) then some (3:Int) else (fun (j:Int)=>if j=(11:Int) then some (3:Int) else (fun (j:Int)=>if j=(10:Int) then some (2:Int) else (fun (j:Int)=>if j=(9:Int) then some (2:Int) else (fun (j:Int)=>if j=(8:Int) then q0 else (fun (j:Int)=>if j=(7:Int) then q0 else (fun (j:Int)=>if j=(6:Int) then q0 else (fun (j:Int)=>if j=(5:Int) then q0 else (fun (j:Int)=>if j=(4:Int) then q0 else (fun (j:Int)=>if j=(3:Int) then q0 else (fun (j:Int)=>if j=(2:Int) then q0 else (fun (j:Int)=>if j=(1:Int) then q0 else (fun (_:Int)=>none) j) j) j) j) j) j) j) j) j) j) j) j) x).getD (dflt Sh.int)=r0) (some (1:Int))):=by kernel_rfl
theorem CU (x:Int):Sat Try.prog (av aL) 92 [.c (.int (x))] [] ⟨[],[.c (.int ((eU x)))],none,false⟩:=by
 refine aY de [] Try.func92 (by decide) (by kernel_rfl) ?_
 rw [CP]
 intro _
 simp only [eU,nd]
 by_cases h:1<=x/\x<=12
 ·have h2:x=1\/x=2\/x=3\/x=4\/x=5\/x=6\/x=7\/x=8\/x=9\/x=10\/x=11\/x=12:=by omega
  rcases h2 with rfl | rfl | rfl | rfl | rfl | rfl | rfl | rfl | rfl | rfl | rfl | rfl <;> rfl
 ·have h1:¬ x=1:=by omega
  have h2:¬ x=2:=by omega
  have h3:¬ x=3:=by omega
  have h4:¬ x=4:=by omega
  have h5:¬ x=5:=by omega
  have h6:¬ x=6:=by omega
  have h7:¬ x=7:=by omega
  have h8:¬ x=8:=by omega
  have h9:¬ x=9:=by omega
  have h10:¬ x=10:=by omega
  have h11:¬ x=11:=by omega
  have h12:¬ x=12:=by omega
  simp [h1,h2,h3,h4,h5,h6,h7,h8,h9,h10,h11,h12,dflt]
theorem FK (s:Span) (k:Int) (r0:Bool):du aL ki [] Try.f110 [.agg (cellsOf (.nm .span) s),.c (.int (k))] [] [.c (.bool (.atom (r0)))]=(I64 s.lo->I64 s.hi->I64 k->(decide (s.lo<=k) && decide (k<=s.hi))=r0):=by kernel_rfl
theorem E_ (s:Span) (k:Int):Sat Try.prog (av aL) 110 [.agg (cellsOf (.nm .span) s),.c (.int (k))] [] ⟨[],[.c (.bool (.atom ((decide (s.lo<=k) && decide (k<=s.hi)))))],none,false⟩:=by
 refine aY de [] Try.func110 (by decide) (by kernel_rfl) ?_
 rw [FK]
 grind
theorem yl (n:Int) (a:Int) (b:Int) (r0:Bool):du aL ki [] Try.f83 [.c (.int (n)),.c (.int (a)),.c (.int (b))] [] [.c (.bool (.atom (r0)))]=(I64 n->I64 a->I64 b->(decide (a<=n) && decide (n<=b))=r0):=by kernel_rfl
theorem zh (n:Int) (a:Int) (b:Int):Sat Try.prog (av aL) 83 [.c (.int (n)),.c (.int (a)),.c (.int (b))] [] ⟨[],[.c (.bool (.atom ((cg n a b))))],none,false⟩:=by
 refine aY de [] Try.func83 (by decide) (by kernel_rfl) ?_
 rw [yl]
 grind [cg]
theorem sf (x:Sess) (r0:Int):du aL ki [] Try.f67 [.agg (cellsOf (.nm .sess) x)] [] [.c (.int (r0))]=(I64 x.client->I64 x.seq->I64 x.last.code->I64 x.last.n->x.client=r0):=by kernel_rfl
theorem sw (x:Sess):Sat Try.prog (av aL) 67 [.agg (cellsOf (.nm .sess) x)] [] ⟨[],[.c (.int ((x.client)))],none,false⟩:=by
 refine aY de [] Try.func67 (by decide) (by kernel_rfl) ?_
 rw [sf]
 grind
theorem AN (x:Opn) (r0:Int):du aL ki [] Try.f88 [.agg (cellsOf (.nm .opn) x)] [] [.c (.int (r0))]=(I64 x.set->I64 x.client->x.set=r0):=by kernel_rfl
theorem Af (x:Opn):Sat Try.prog (av aL) 88 [.agg (cellsOf (.nm .opn) x)] [] ⟨[],[.c (.int ((x.set)))],none,false⟩:=by
 refine aY de [] Try.func88 (by decide) (by kernel_rfl) ?_
 rw [AN]
 grind
theorem Eb (x:Snap) (r0:Int):du aL ki [] Try.f72 [.agg (cellsOf (.nm .snap) x)] [] [.c (.int (r0))]=(I64 x.id->I64 x.set->x.chunks.length*(8:Nat)<=(140737488355328:Nat)->x.tag.b.length<=(140737488355328:Nat)->x.id=r0):=by kernel_rfl
theorem CW (x:Snap):Sat Try.prog (av aL) 72 [.agg (cellsOf (.nm .snap) x)] [] ⟨[],[.c (.int ((x.id)))],none,false⟩:=by
 refine aY de [] Try.func72 (by decide) (by kernel_rfl) ?_
 rw [Eb]
 grind
theorem vO (e:Int) (r0:Reply):du aL ki [] Try.f29 [.c (.int (e))] [] [.agg (cellsOf (.nm .reply) r0)]=(I64 e->e=r0.code/\(0:Int)=r0.n):=by kernel_rfl
theorem wb (e:Int):Sat Try.prog (av aL) 29 [.c (.int (e))] [] ⟨[],[.agg (cellsOf (.nm .reply) (⟨e,0⟩))],none,false⟩:=by
 refine aY de [] Try.func29 (by decide) (by kernel_rfl) ?_
 rw [vO]
 grind
def zd:cY:=(bX 29 (bR (ak (kC cI) aU) aR fun (e,_) (_)=>⟨[],[.agg (cellsOf (.nm .reply) (⟨e,0⟩))],none,false⟩) (bX 72 (bR (ak (kT (.nm .snap)) aU) aR fun (x,_) (_)=>⟨[],[.c (.int ((x.id)))],none,false⟩) (bX 88 (bR (ak (kT (.nm .opn)) aU) aR fun (x,_) (_)=>⟨[],[.c (.int ((x.set)))],none,false⟩) (bX 67 (bR (ak (kT (.nm .sess)) aU) aR fun (x,_) (_)=>⟨[],[.c (.int ((x.client)))],none,false⟩) (bX 83 (bR (ak (kC cI) (ak (kC cI) (ak (kC cI) aU))) aR fun (n,a,b,_) (_)=>⟨[],[.c (.bool (.atom ((cg n a b))))],none,false⟩) (bX 110 (bR (ak (kT (.nm .span)) (ak (kC cI) aU)) aR fun (s,k,_) (_)=>⟨[],[.c (.bool (.atom ((decide (s.lo<=k) && decide (k<=s.hi)))))],none,false⟩) (bX 92 (bR (ak (kC cI) aU) aR fun (x,_) (_)=>⟨[],[.c (.int ((eU x)))],none,false⟩) (bX 20 (bR (ak (kC (cL .int)) (ak (kC (cL .int)) aU)) aR fun (a,b,_) (_)=>⟨[],[.c (.bool (.atom ((decide (a=b)))))],none,false⟩) (bX 111 (bR (ak (kC (cL .int)) aU) aR fun (l,_) (_)=>⟨[],[.c (.bool (.atom ((dh l))))],none,false⟩) (bX 93 (bR (ak (kC cI) aU) aR fun (k,_) (_)=>⟨[],[.c (.bool (.atom ((jD k))))],none,false⟩) ki))))))))))
theorem kv:bf Try.prog (av aL) zd:=(aC (aB (ae (aw ax) ao) al fun (e,_) (_) _=>wb e ) (aC (aB (ae bP ao) al fun (x,_) (_) _=>CW x ) (aC (aB (ae bP ao) al fun (x,_) (_) _=>Af x ) (aC (aB (ae bP ao) al fun (x,_) (_) _=>sw x ) (aC (aB (ae (aw ax) (ae (aw ax) (ae (aw ax) ao))) al fun (n,a,b,_) (_) _=>zh n a b ) (aC (aB (ae bP (ae (aw ax) ao)) al fun (s,k,_) (_) _=>E_ s k ) (aC (aB (ae (aw ax) ao) al fun (x,_) (_) _=>CU x ) (aC (aB (ae (aw bV) (ae (aw bV) ao)) al fun (a,b,_) (_) _=>Dc a b ) (aC (aB (ae (aw bV) ao) al fun (l,_) (_) _=>FH l ) (aC (aB (ae (aw ax) ao) al fun (k,_) (_) _=>BJ k ) de))))))))))
end Go.Proofs.Ytmmbibcfkdabeaa
namespace Go.Proofs.Ytmmbibcfkdabeaa
open Go.RowKit
theorem aq {n:Int} (h1:-9223372036854775808<=n) (h2:n<=9223372036854775807):I64 n:=⟨h1,h2⟩
def ah {α:Type} (key:α->Int) (want:Int) (l:List α):Int:=match l.findIdx? (fun x=>decide (key x=want)) with
 | some i=>(i:Int)
 | none=>-1
section
variable {α:Type} {key:α->Int} {want:Int} {l:List α} {k:Nat} {x:α}
theorem gX:ah key want l = -1↔∀ x ∈ l,¬ key x=want:=by
 unfold ah
 cases h:l.findIdx? (fun x=>decide (key x=want)) with
 | none=>simpa using h
 | some i=>
  rw [List.findIdx?_eq_some_iff_getElem] at h
  obtain ⟨h1,h2,_⟩:=h
  simp only [decide_eq_true_eq] at h2
  constructor
  ·intro h; dsimp only at h; omega
  ·intro h; exact absurd h2 (h _ (List.getElem_mem h1))
theorem dQ:ah key want (l.take 0) = -1:=rfl
theorem dk (h:ah key want (l.take k) = -1) (hx:l[k]? = some x) (hn:¬ key x=want):ah key want (l.take (k+1)) = -1:=by
 rw [gX] at h ⊢
 rw [aF hx]
 intro y hy
 rcases List.mem_append.1 hy with hy | hy
 ·exact h y hy
 ·rw [List.mem_singleton] at hy; subst hy; exact hn
theorem dt (h:ah key want (l.take k) = -1) (hk:l.length<=k):-1=ah key want l:=by
 rw [List.take_of_length_le hk] at h; exact h.symm
theorem cH (h:ah key want (l.take k) = -1) (hx:l[k]? = some x) (he:key x=want):(k:Int)=ah key want l:=by
 have:l.findIdx? (fun x=>decide (key x=want))=some k:=by
  rw [gX] at h
  obtain ⟨hk,rfl⟩:=List.getElem?_eq_some_iff.1 hx
  rw [List.findIdx?_eq_some_iff_getElem]
  refine ⟨hk,decide_eq_true he,fun j hj=>?_⟩
  have:=h l[j] (by rw [List.mem_take_iff_getElem]; exact ⟨j,by omega,rfl⟩)
  simpa using this
 rw [ah,this]
end
def mD (l:List Sess) (want:Int):List (Nat × LI):=[(2,{ σ:=Nat,F:=fun k=>([(1,one (.int (want))),(2,one (.fn 67 [] [])),(9,one (.fz (.nm .sess) (l))),(10,one (.int (l).length)),(11,one (.int k))],[]),J:=fun k=>k<=l.length/\ah Sess.client want (l.take k) = -1,μ:=fun k=>(l).length - k })]
def lr (l:List Opn) (want:Int):List (Nat × LI):=[(2,{ σ:=Nat,F:=fun k=>([(1,one (.int (want))),(2,one (.fn 88 [] [])),(9,one (.fz (.nm .opn) (l))),(10,one (.int (l).length)),(11,one (.int k))],[]),J:=fun k=>k<=l.length/\ah Opn.set want (l.take k) = -1,μ:=fun k=>(l).length - k })]
def mM (l:List Snap) (want:Int):List (Nat × LI):=[(2,{ σ:=Nat,F:=fun k=>([(1,one (.int (want))),(2,one (.fn 72 [] [])),(9,one (.fz (.nm .snap) (l))),(10,one (.int (l).length)),(11,one (.int k))],[]),J:=fun k=>k<=l.length/\ah Snap.id want (l.take k) = -1,μ:=fun k=>(l).length - k })]
theorem rb (l:List Sess) (want:Int) (r0:Int):du aL zd (mD l want) Try.f66 [.c (.fz (.nm .sess) (l)),.c (.int (want)),.c (.fn 67 [] [])] [] [.c (.int (r0))]=((fun (q1:Int)=>(fun (q0:Nat)=>l.length*(32:Nat)<=(140737488355328:Nat)->I64 want->∃ (s0:Nat),(want=want/\l=l/\(↑l.length:Int)=(↑q0:Int)/\(0:Int)=(↑s0:Int))/\(s0<=q0/\ah Sess.client want (List.take s0 l) = -q1)/\∀ (s:Nat),s<=q0/\ah Sess.client want (List.take s l) = -q1->((↑s:Int)<(↑q0:Int)->(0:Int)<=(↑s:Int)/\(↑s:Int)<(↑l.length:Int)/\∀ (x:Sess),l[s]? = some x->I64 x.client->I64 x.seq->I64 x.last.code->I64 x.last.n->I64 x.client->(x.client=want->(↑s:Int)=r0)/\(¬x.client=want->I64 ((↑s:Int)+q1)/\∃ (s':Nat),(want=want/\l=l/\(↑q0:Int)=(↑q0:Int)/\(↑s:Int)+q1=(↑s':Int))/\(s' <= q0/\ah Sess.client want (List.take s' l) = -q1)/\q0 - s' < q0 - s))/\((↑q0:Int)<=(↑s:Int) -> -q1=r0)) l.length) (1:Int)):=by kernel_rfl
theorem qy (l:List Sess) (want:Int):Sat Try.prog (av aL) 66 [.c (.fz (.nm .sess) (l)),.c (.int (want)),.c (.fn 67 [] [])] [] ⟨[],[.c (.int ((ah Sess.client want l)))],none,false⟩:=by
 refine aY kv (mD l want) Try.func66 (by decide) (by kernel_rfl) ?_
 rw [rb]
 (repeat' (first | with_reducible refine And.intro ?_ ?_ | with_reducible refine and_imp.2 ?_ | intro))
 all_goals try (first | (first | with_reducible rfl | with_reducible assumption | omega | (refine aq ?_ ?_ <;> omega)) | exact (dQ (key:=Sess.client)) | exact (cH (key:=Sess.client) (by with_reducible assumption) (by with_reducible assumption) (by with_reducible assumption)) | exact (dt (key:=Sess.client) (by with_reducible assumption) (by omega)) | exact (dk (key:=Sess.client) (by with_reducible assumption) (by with_reducible assumption) (by with_reducible assumption)))
 all_goals try (refine ⟨0,?_⟩; (repeat' (first | with_reducible refine And.intro ?_ ?_ | with_reducible refine and_imp.2 ?_ | intro)))
 all_goals try (first | (first | with_reducible rfl | with_reducible assumption | omega | (refine aq ?_ ?_ <;> omega)) | exact (dQ (key:=Sess.client)) | exact (cH (key:=Sess.client) (by with_reducible assumption) (by with_reducible assumption) (by with_reducible assumption)) | exact (dt (key:=Sess.client) (by with_reducible assumption) (by omega)) | exact (dk (key:=Sess.client) (by with_reducible assumption) (by with_reducible assumption) (by with_reducible assumption)))
 all_goals try (refine ⟨‹Nat› + 1,?_⟩; (repeat' (first | with_reducible refine And.intro ?_ ?_ | with_reducible refine and_imp.2 ?_ | intro)))
 all_goals (first | (first | with_reducible rfl | with_reducible assumption | omega | (refine aq ?_ ?_ <;> omega)) | exact (dQ (key:=Sess.client)) | exact (cH (key:=Sess.client) (by with_reducible assumption) (by with_reducible assumption) (by with_reducible assumption)) | exact (dt (key:=Sess.client) (by with_reducible assumption) (by omega)) | exact (dk (key:=Sess.client) (by with_reducible assumption) (by with_reducible assumption) (by with_reducible assumption)))
theorem ri (l:List Opn) (want:Int) (r0:Int):du aL zd (lr l want) Try.f96 [.c (.fz (.nm .opn) (l)),.c (.int (want)),.c (.fn 88 [] [])] [] [.c (.int (r0))]=((fun (q1:Int)=>(fun (q0:Nat)=>l.length*(16:Nat)<=(140737488355328:Nat)->I64 want->∃ (s0:Nat),(want=want/\l=l/\(↑l.length:Int)=(↑q0:Int)/\(0:Int)=(↑s0:Int))/\(s0<=q0/\ah Opn.set want (List.take s0 l) = -q1)/\∀ (s:Nat),s<=q0/\ah Opn.set want (List.take s l) = -q1->((↑s:Int)<(↑q0:Int)->(0:Int)<=(↑s:Int)/\(↑s:Int)<(↑l.length:Int)/\∀ (x:Opn),l[s]? = some x->I64 x.set->I64 x.client->I64 x.set->(x.set=want->(↑s:Int)=r0)/\(¬x.set=want->I64 ((↑s:Int)+q1)/\∃ (s':Nat),(want=want/\l=l/\(↑q0:Int)=(↑q0:Int)/\(↑s:Int)+q1=(↑s':Int))/\(s' <= q0/\ah Opn.set want (List.take s' l) = -q1)/\q0 - s' < q0 - s))/\((↑q0:Int)<=(↑s:Int) -> -q1=r0)) l.length) (1:Int)):=by kernel_rfl
theorem rJ (l:List Opn) (want:Int):Sat Try.prog (av aL) 96 [.c (.fz (.nm .opn) (l)),.c (.int (want)),.c (.fn 88 [] [])] [] ⟨[],[.c (.int ((ah Opn.set want l)))],none,false⟩:=by
 refine aY kv (lr l want) Try.func96 (by decide) (by kernel_rfl) ?_
 rw [ri]
 (repeat' (first | with_reducible refine And.intro ?_ ?_ | with_reducible refine and_imp.2 ?_ | intro))
 all_goals try (first | (first | with_reducible rfl | with_reducible assumption | omega | (refine aq ?_ ?_ <;> omega)) | exact (dQ (key:=Opn.set)) | exact (cH (key:=Opn.set) (by with_reducible assumption) (by with_reducible assumption) (by with_reducible assumption)) | exact (dt (key:=Opn.set) (by with_reducible assumption) (by omega)) | exact (dk (key:=Opn.set) (by with_reducible assumption) (by with_reducible assumption) (by with_reducible assumption)))
 all_goals try (refine ⟨0,?_⟩; (repeat' (first | with_reducible refine And.intro ?_ ?_ | with_reducible refine and_imp.2 ?_ | intro)))
 all_goals try (first | (first | with_reducible rfl | with_reducible assumption | omega | (refine aq ?_ ?_ <;> omega)) | exact (dQ (key:=Opn.set)) | exact (cH (key:=Opn.set) (by with_reducible assumption) (by with_reducible assumption) (by with_reducible assumption)) | exact (dt (key:=Opn.set) (by with_reducible assumption) (by omega)) | exact (dk (key:=Opn.set) (by with_reducible assumption) (by with_reducible assumption) (by with_reducible assumption)))
 all_goals try (refine ⟨‹Nat› + 1,?_⟩; (repeat' (first | with_reducible refine And.intro ?_ ?_ | with_reducible refine and_imp.2 ?_ | intro)))
 all_goals (first | (first | with_reducible rfl | with_reducible assumption | omega | (refine aq ?_ ?_ <;> omega)) | exact (dQ (key:=Opn.set)) | exact (cH (key:=Opn.set) (by with_reducible assumption) (by with_reducible assumption) (by with_reducible assumption)) | exact (dt (key:=Opn.set) (by with_reducible assumption) (by omega)) | exact (dk (key:=Opn.set) (by with_reducible assumption) (by with_reducible assumption) (by with_reducible assumption)))
theorem qX (l:List Snap) (want:Int) (r0:Int):du aL zd (mM l want) Try.f71 [.c (.fz (.nm .snap) (l)),.c (.int (want)),.c (.fn 72 [] [])] [] [.c (.int (r0))]=((fun (q1:Int)=>(fun (q0:Nat)=>l.length*(64:Nat)<=(140737488355328:Nat)->I64 want->∃ (s0:Nat),(want=want/\l=l/\(↑l.length:Int)=(↑q0:Int)/\(0:Int)=(↑s0:Int))/\(s0<=q0/\ah Snap.id want (List.take s0 l) = -q1)/\∀ (s:Nat),s<=q0/\ah Snap.id want (List.take s l) = -q1->((↑s:Int)<(↑q0:Int)->(0:Int)<=(↑s:Int)/\(↑s:Int)<(↑l.length:Int)/\∀ (x:Snap),l[s]? = some x->I64 x.id->I64 x.set->x.chunks.length*(8:Nat)<=(140737488355328:Nat)->x.tag.b.length<=(140737488355328:Nat)->I64 x.id->(x.id=want->(↑s:Int)=r0)/\(¬x.id=want->I64 ((↑s:Int)+q1)/\∃ (s':Nat),(want=want/\l=l/\(↑q0:Int)=(↑q0:Int)/\(↑s:Int)+q1=(↑s':Int))/\(s' <= q0/\ah Snap.id want (List.take s' l) = -q1)/\q0 - s' < q0 - s))/\((↑q0:Int)<=(↑s:Int) -> -q1=r0)) l.length) (1:Int)):=by kernel_rfl
theorem qF (l:List Snap) (want:Int):Sat Try.prog (av aL) 71 [.c (.fz (.nm .snap) (l)),.c (.int (want)),.c (.fn 72 [] [])] [] ⟨[],[.c (.int ((ah Snap.id want l)))],none,false⟩:=by
 refine aY kv (mM l want) Try.func71 (by decide) (by kernel_rfl) ?_
 rw [qX]
 (repeat' (first | with_reducible refine And.intro ?_ ?_ | with_reducible refine and_imp.2 ?_ | intro))
 all_goals try (first | (first | with_reducible rfl | with_reducible assumption | omega | (refine aq ?_ ?_ <;> omega)) | exact (dQ (key:=Snap.id)) | exact (cH (key:=Snap.id) (by with_reducible assumption) (by with_reducible assumption) (by with_reducible assumption)) | exact (dt (key:=Snap.id) (by with_reducible assumption) (by omega)) | exact (dk (key:=Snap.id) (by with_reducible assumption) (by with_reducible assumption) (by with_reducible assumption)))
 all_goals try (refine ⟨0,?_⟩; (repeat' (first | with_reducible refine And.intro ?_ ?_ | with_reducible refine and_imp.2 ?_ | intro)))
 all_goals try (first | (first | with_reducible rfl | with_reducible assumption | omega | (refine aq ?_ ?_ <;> omega)) | exact (dQ (key:=Snap.id)) | exact (cH (key:=Snap.id) (by with_reducible assumption) (by with_reducible assumption) (by with_reducible assumption)) | exact (dt (key:=Snap.id) (by with_reducible assumption) (by omega)) | exact (dk (key:=Snap.id) (by with_reducible assumption) (by with_reducible assumption) (by with_reducible assumption)))
 all_goals try (refine ⟨‹Nat› + 1,?_⟩; (repeat' (first | with_reducible refine And.intro ?_ ?_ | with_reducible refine and_imp.2 ?_ | intro)))
 all_goals (first | (first | with_reducible rfl | with_reducible assumption | omega | (refine aq ?_ ?_ <;> omega)) | exact (dQ (key:=Snap.id)) | exact (cH (key:=Snap.id) (by with_reducible assumption) (by with_reducible assumption) (by with_reducible assumption)) | exact (dt (key:=Snap.id) (by with_reducible assumption) (by omega)) | exact (dk (key:=Snap.id) (by with_reducible assumption) (by with_reducible assumption) (by with_reducible assumption)))
def rz:cY:=(bX 71 (bR (ak (kC (cL (.nm .snap))) (ak (kC cI) (ak (kC (mN 72 [] [])) aU))) aR fun (l,want,_,_) (_)=>⟨[],[.c (.int ((ah Snap.id want l)))],none,false⟩) (bX 96 (bR (ak (kC (cL (.nm .opn))) (ak (kC cI) (ak (kC (mN 88 [] [])) aU))) aR fun (l,want,_,_) (_)=>⟨[],[.c (.int ((ah Opn.set want l)))],none,false⟩) (bX 66 (bR (ak (kC (cL (.nm .sess))) (ak (kC cI) (ak (kC (mN 67 [] [])) aU))) aR fun (l,want,_,_) (_)=>⟨[],[.c (.int ((ah Sess.client want l)))],none,false⟩) zd)))
theorem fB:bf Try.prog (av aL) rz:=(aC (aB (ae (aw bV) (ae (aw ax) (ae (aw ck) ao))) al fun (l,want,_,_) (_) _=>qF l want ) (aC (aB (ae (aw bV) (ae (aw ax) (ae (aw ck) ao))) al fun (l,want,_,_) (_) _=>rJ l want ) (aC (aB (ae (aw bV) (ae (aw ax) (ae (aw ck) ao))) al fun (l,want,_,_) (_) _=>qy l want ) kv)))
end Go.Proofs.Ytmmbibcfkdabeaa
namespace Go.Proofs.Ytmmbibcfkdabeaa
open Go.RowKit
theorem Bd {n r m:Nat} (h:aV n+1=aV r+m) (hr:128<=r):aV n+1=aV (r / 128)+(m+1):=by
 have:=mi (n:=r) (by omega); omega
theorem Ag {n r m:Nat} (h:aV n+1=aV r+m) (hn:n<18446744073709551616):m<=10:=by
 have:=mF hn; have:=gC r; omega
theorem yd {n r m:Nat} (h:aV n+1=aV r+m) (hr:r<128):m=aV n:=by
 have:=hX hr; omega
section
variable {α:Type} {key:α->Int} {most:Int} {l:List α} {k:Nat} {x:α}
theorem ij (h:ai key most 0 (l.take k)=true) (hx:l[k]? = some x) (hb:cg (key x) (br key 0 (l.take k)+1) most=true):ai key most 0 (l.take (k+1))=true:=
 jX h hx (by have:=pn hb; omega) (pn hb).2
theorem ie (hx:l[k]? = some x) (hb:cg (key x) (br key 0 (l.take k)+1) most=false):false=ai key most 0 l:=
 (jR hx (by have:=Hu hb; omega)).symm
theorem iI (h:ai key most 0 (l.take k)=true) (hk:l.length<=k):true=ai key most 0 l:=(jS h hk).symm
theorem iV (hx:l[k]? = some x) (h0:0<=br key 0 (l.take k)) (hb:cg (key x) (br key 0 (l.take k)+1) most=true):0<=br key 0 (l.take (k+1)):=by
 have:=pn hb; rw [<- bN hx]; omega
theorem iO (hx:l[k]? = some x) (hb:cg (key x) (br key 0 (l.take k)+1) most=true) (hm:most<=1048576):br key 0 (l.take (k+1))<=1048576:=by
 have:=pn hb; rw [<- bN hx]; omega
variable {p:α->Bool}
theorem iR (hx:l[k]? = some x) (hp:p x=false):false=l.all p:=(zL hx hp).symm
theorem iL (h:(l.take k).all p=true) (hk:l.length<=k):true=l.all p:=(yN h hk).symm
end
def Cq (n:U64):List (Nat × LI):=[(2,{ σ:=Nat × Nat,F:=fun s=>([(0,one (.u64 s.1)),(3,one (.int s.2))],[]),J:=fun s=>s.1<18446744073709551616/\aV n.n+1=aV s.1+s.2,μ:=fun s=>s.1 })]
def jW (l:List Sess) (most:Int):List (Nat × LI):=[(3,{ σ:=Nat,F:=fun k=>([(1,one (.int (most))),(2,one (.fn 67 [] [])),(7,one (.int (br Sess.client 0 (l.take k)))),(10,one (.fz (.nm .sess) (l))),(11,one (.int (l).length)),(12,one (.int k))],[]),J:=fun k=>k<=l.length/\ai Sess.client most 0 (l.take k)=true/\0<=br Sess.client 0 (l.take k)/\br Sess.client 0 (l.take k)<=1048576,μ:=fun k=>(l).length - k })]
def jM (l:List Opn) (most:Int):List (Nat × LI):=[(3,{ σ:=Nat,F:=fun k=>([(1,one (.int (most))),(2,one (.fn 88 [] [])),(7,one (.int (br Opn.set 0 (l.take k)))),(10,one (.fz (.nm .opn) (l))),(11,one (.int (l).length)),(12,one (.int k))],[]),J:=fun k=>k<=l.length/\ai Opn.set most 0 (l.take k)=true/\0<=br Opn.set 0 (l.take k)/\br Opn.set 0 (l.take k)<=1048576,μ:=fun k=>(l).length - k })]
def j_ (l:List Snap) (most:Int):List (Nat × LI):=[(3,{ σ:=Nat,F:=fun k=>([(1,one (.int (most))),(2,one (.fn 72 [] [])),(7,one (.int (br Snap.id 0 (l.take k)))),(10,one (.fz (.nm .snap) (l))),(11,one (.int (l).length)),(12,one (.int k))],[]),J:=fun k=>k<=l.length/\ai Snap.id most 0 (l.take k)=true/\0<=br Snap.id 0 (l.take k)/\br Snap.id 0 (l.take k)<=1048576,μ:=fun k=>(l).length - k })]
theorem Dz (n:U64) (r0:Int):du aL rz (Cq n) Try.f117 [.c (.u64 (n).n)] [] [.c (.int (r0))]=((fun (q0:Nat)=>n.n<(18446744073709551616:Nat)->∃ (s0:Nat × Nat),(n.n=s0.fst/\(1:Int)=(↑s0.snd:Int))/\(s0.fst<(18446744073709551616:Nat)/\q0=aV s0.fst+s0.snd)/\∀ (s:Nat × Nat),s.fst<(18446744073709551616:Nat)/\q0=aV s.fst+s.snd->((↑(128:Nat):Int)<=(↑s.fst:Int)->(7:Nat)<(64:Nat)/\I64 ((↑s.snd:Int)+(1:Int))/\∃ (s':Nat × Nat),(s.fst / (2:Nat) ^ (7:Nat)=s'.fst/\(↑s.snd:Int)+(1:Int)=(↑s'.snd:Int))/\(s'.fst<(18446744073709551616:Nat)/\q0=aV s'.fst+s'.snd)/\s'.fst<s.fst)/\((↑s.fst:Int)<(↑(128:Nat):Int)->(↑s.snd:Int)=r0)) (aV n.n+(1:Nat))):=by kernel_rfl
theorem Dq (n:U64):Sat Try.prog (av aL) 117 [.c (.u64 (n).n)] [] ⟨[],[.c (.int (((aV n.n:Int))))],none,false⟩:=by
 refine aY fB (Cq n) Try.func117 (by decide) (by kernel_rfl) ?_
 rw [Dz]
 intro hn
 refine ⟨(n.n,1),⟨rfl,rfl⟩,⟨hn,rfl⟩,fun s hs=>⟨fun h=>?_,fun h=>?_⟩⟩
 ·have h2:=Bd hs.2 (by omega)
  have h3:=Ag hs.2 hn
  exact ⟨by omega,by constructor <;> omega,(s.1 / 128,s.2+1),⟨rfl,by simp⟩,⟨by show s.1 / 128<_; omega,h2⟩,by show s.1 / 128<s.1; omega⟩
 ·exact congrArg Int.ofNat (yd hs.2 (by omega))
theorem pK (l:List Sess) (most:Int) (r0:Bool):du aL rz (jW l most) Try.f84 [.c (.fz (.nm .sess) (l)),.c (.int (most)),.c (.fn 67 [] [])] [] [.c (.bool (.atom (r0)))]=((fun (q1:Nat)=>(fun (q0:Int)=>l.length*(32:Nat)<=(140737488355328:Nat)->I64 most->∃ (s0:Nat),(fun (q2:Int)=>(most=most/\q0=q2/\l=l/\(↑l.length:Int)=(↑q1:Int)/\q0=(↑s0:Int))/\(s0<=q1/\ai Sess.client most q0 (List.take s0 l)=true/\q0<=q2/\q2<=(1048576:Int))/\∀ (s:Nat),(fun (q3:Int)=>s<=q1/\ai Sess.client most q0 (List.take s l)=true/\q0<=q3/\q3<=(1048576:Int)->((↑s:Int)<(↑q1:Int)->q0<=(↑s:Int)/\(↑s:Int)<(↑l.length:Int)/\∀ (x:Sess),(fun (q4:Bool)=>l[s]? = some x->I64 x.client->I64 x.seq->I64 x.last.code->I64 x.last.n->I64 x.client->I64 (q3+(1:Int))/\(q4=false->false=r0)/\(q4=true->I64 x.client->I64 ((↑s:Int)+(1:Int))/\∃ (s':Nat),(fun (q5:Int)=>(most=most/\x.client=q5/\l=l/\(↑q1:Int)=(↑q1:Int)/\(↑s:Int)+(1:Int)=(↑s':Int))/\(s' <= q1/\ai Sess.client most q0 (List.take s' l)=true/\q0<=q5/\q5<=(1048576:Int))/\q1 - s' < q1 - s) (br Sess.client q0 (List.take s' l)))) (cg x.client (q3+(1:Int)) most))/\((↑q1:Int)<=(↑s:Int)->true=r0)) (br Sess.client q0 (List.take s l))) (br Sess.client q0 (List.take s0 l))) (0:Int)) l.length):=by kernel_rfl
theorem oK (l:List Sess) (most:Int) (h0:most<=1048576):Sat Try.prog (av aL) 84 [.c (.fz (.nm .sess) (l)),.c (.int (most)),.c (.fn 67 [] [])] [] ⟨[most<=1048576],[.c (.bool (.atom ((ai Sess.client most 0 l))))],none,false⟩:=by
 refine aY fB (jW l most) Try.func84 (by decide) (by kernel_rfl) ?_
 rw [pK]
 (repeat' (first | with_reducible refine And.intro ?_ ?_ | with_reducible refine and_imp.2 ?_ | intro))
 all_goals try (first | (first | with_reducible rfl | with_reducible assumption | omega | (refine aq ?_ ?_ <;> omega)) | exact (ij (key:=Sess.client) (by with_reducible assumption) (by with_reducible assumption) (by with_reducible assumption)) | exact (ie (key:=Sess.client) (by with_reducible assumption) (by with_reducible assumption)) | exact (iI (key:=Sess.client) (by with_reducible assumption) (by omega)) | exact (bN (key:=Sess.client) (by with_reducible assumption)) | exact (iV (key:=Sess.client) (by with_reducible assumption) (by with_reducible assumption) (by with_reducible assumption)) | exact (iO (key:=Sess.client) (by with_reducible assumption) (by with_reducible assumption) (by with_reducible assumption)) | exact rfl | exact Int.le_refl _ | exact (show (0:Int)<=1048576 by omega))
 all_goals try (refine ⟨0,?_⟩; (repeat' (first | with_reducible refine And.intro ?_ ?_ | with_reducible refine and_imp.2 ?_ | intro)))
 all_goals try (first | (first | with_reducible rfl | with_reducible assumption | omega | (refine aq ?_ ?_ <;> omega)) | exact (ij (key:=Sess.client) (by with_reducible assumption) (by with_reducible assumption) (by with_reducible assumption)) | exact (ie (key:=Sess.client) (by with_reducible assumption) (by with_reducible assumption)) | exact (iI (key:=Sess.client) (by with_reducible assumption) (by omega)) | exact (bN (key:=Sess.client) (by with_reducible assumption)) | exact (iV (key:=Sess.client) (by with_reducible assumption) (by with_reducible assumption) (by with_reducible assumption)) | exact (iO (key:=Sess.client) (by with_reducible assumption) (by with_reducible assumption) (by with_reducible assumption)) | exact rfl | exact Int.le_refl _ | exact (show (0:Int)<=1048576 by omega))
 all_goals try (refine ⟨‹Nat› + 1,?_⟩; (repeat' (first | with_reducible refine And.intro ?_ ?_ | with_reducible refine and_imp.2 ?_ | intro)))
 all_goals (first | (first | with_reducible rfl | with_reducible assumption | omega | (refine aq ?_ ?_ <;> omega)) | exact (ij (key:=Sess.client) (by with_reducible assumption) (by with_reducible assumption) (by with_reducible assumption)) | exact (ie (key:=Sess.client) (by with_reducible assumption) (by with_reducible assumption)) | exact (iI (key:=Sess.client) (by with_reducible assumption) (by omega)) | exact (bN (key:=Sess.client) (by with_reducible assumption)) | exact (iV (key:=Sess.client) (by with_reducible assumption) (by with_reducible assumption) (by with_reducible assumption)) | exact (iO (key:=Sess.client) (by with_reducible assumption) (by with_reducible assumption) (by with_reducible assumption)) | exact rfl | exact Int.le_refl _ | exact (show (0:Int)<=1048576 by omega))
theorem oQ (l:List Opn) (most:Int) (r0:Bool):du aL rz (jM l most) Try.f87 [.c (.fz (.nm .opn) (l)),.c (.int (most)),.c (.fn 88 [] [])] [] [.c (.bool (.atom (r0)))]=((fun (q1:Nat)=>(fun (q0:Int)=>l.length*(16:Nat)<=(140737488355328:Nat)->I64 most->∃ (s0:Nat),(fun (q2:Int)=>(most=most/\q0=q2/\l=l/\(↑l.length:Int)=(↑q1:Int)/\q0=(↑s0:Int))/\(s0<=q1/\ai Opn.set most q0 (List.take s0 l)=true/\q0<=q2/\q2<=(1048576:Int))/\∀ (s:Nat),(fun (q3:Int)=>s<=q1/\ai Opn.set most q0 (List.take s l)=true/\q0<=q3/\q3<=(1048576:Int)->((↑s:Int)<(↑q1:Int)->q0<=(↑s:Int)/\(↑s:Int)<(↑l.length:Int)/\∀ (x:Opn),(fun (q4:Bool)=>l[s]? = some x->I64 x.set->I64 x.client->I64 x.set->I64 (q3+(1:Int))/\(q4=false->false=r0)/\(q4=true->I64 x.set->I64 ((↑s:Int)+(1:Int))/\∃ (s':Nat),(fun (q5:Int)=>(most=most/\x.set=q5/\l=l/\(↑q1:Int)=(↑q1:Int)/\(↑s:Int)+(1:Int)=(↑s':Int))/\(s' <= q1/\ai Opn.set most q0 (List.take s' l)=true/\q0<=q5/\q5<=(1048576:Int))/\q1 - s' < q1 - s) (br Opn.set q0 (List.take s' l)))) (cg x.set (q3+(1:Int)) most))/\((↑q1:Int)<=(↑s:Int)->true=r0)) (br Opn.set q0 (List.take s l))) (br Opn.set q0 (List.take s0 l))) (0:Int)) l.length):=by kernel_rfl
theorem pD (l:List Opn) (most:Int) (h0:most<=1048576):Sat Try.prog (av aL) 87 [.c (.fz (.nm .opn) (l)),.c (.int (most)),.c (.fn 88 [] [])] [] ⟨[most<=1048576],[.c (.bool (.atom ((ai Opn.set most 0 l))))],none,false⟩:=by
 refine aY fB (jM l most) Try.func87 (by decide) (by kernel_rfl) ?_
 rw [oQ]
 (repeat' (first | with_reducible refine And.intro ?_ ?_ | with_reducible refine and_imp.2 ?_ | intro))
 all_goals try (first | (first | with_reducible rfl | with_reducible assumption | omega | (refine aq ?_ ?_ <;> omega)) | exact (ij (key:=Opn.set) (by with_reducible assumption) (by with_reducible assumption) (by with_reducible assumption)) | exact (ie (key:=Opn.set) (by with_reducible assumption) (by with_reducible assumption)) | exact (iI (key:=Opn.set) (by with_reducible assumption) (by omega)) | exact (bN (key:=Opn.set) (by with_reducible assumption)) | exact (iV (key:=Opn.set) (by with_reducible assumption) (by with_reducible assumption) (by with_reducible assumption)) | exact (iO (key:=Opn.set) (by with_reducible assumption) (by with_reducible assumption) (by with_reducible assumption)) | exact rfl | exact Int.le_refl _ | exact (show (0:Int)<=1048576 by omega))
 all_goals try (refine ⟨0,?_⟩; (repeat' (first | with_reducible refine And.intro ?_ ?_ | with_reducible refine and_imp.2 ?_ | intro)))
 all_goals try (first | (first | with_reducible rfl | with_reducible assumption | omega | (refine aq ?_ ?_ <;> omega)) | exact (ij (key:=Opn.set) (by with_reducible assumption) (by with_reducible assumption) (by with_reducible assumption)) | exact (ie (key:=Opn.set) (by with_reducible assumption) (by with_reducible assumption)) | exact (iI (key:=Opn.set) (by with_reducible assumption) (by omega)) | exact (bN (key:=Opn.set) (by with_reducible assumption)) | exact (iV (key:=Opn.set) (by with_reducible assumption) (by with_reducible assumption) (by with_reducible assumption)) | exact (iO (key:=Opn.set) (by with_reducible assumption) (by with_reducible assumption) (by with_reducible assumption)) | exact rfl | exact Int.le_refl _ | exact (show (0:Int)<=1048576 by omega))
 all_goals try (refine ⟨‹Nat› + 1,?_⟩; (repeat' (first | with_reducible refine And.intro ?_ ?_ | with_reducible refine and_imp.2 ?_ | intro)))
 all_goals (first | (first | with_reducible rfl | with_reducible assumption | omega | (refine aq ?_ ?_ <;> omega)) | exact (ij (key:=Opn.set) (by with_reducible assumption) (by with_reducible assumption) (by with_reducible assumption)) | exact (ie (key:=Opn.set) (by with_reducible assumption) (by with_reducible assumption)) | exact (iI (key:=Opn.set) (by with_reducible assumption) (by omega)) | exact (bN (key:=Opn.set) (by with_reducible assumption)) | exact (iV (key:=Opn.set) (by with_reducible assumption) (by with_reducible assumption) (by with_reducible assumption)) | exact (iO (key:=Opn.set) (by with_reducible assumption) (by with_reducible assumption) (by with_reducible assumption)) | exact rfl | exact Int.le_refl _ | exact (show (0:Int)<=1048576 by omega))
theorem o_ (l:List Snap) (most:Int) (r0:Bool):du aL rz (j_ l most) Try.f103 [.c (.fz (.nm .snap) (l)),.c (.int (most)),.c (.fn 72 [] [])] [] [.c (.bool (.atom (r0)))]=((fun (q1:Nat)=>(fun (q0:Int)=>l.length*(64:Nat)<=(140737488355328:Nat)->I64 most->∃ (s0:Nat),(fun (q2:Int)=>(most=most/\q0=q2/\l=l/\(↑l.length:Int)=(↑q1:Int)/\q0=(↑s0:Int))/\(s0<=q1/\ai Snap.id most q0 (List.take s0 l)=true/\q0<=q2/\q2<=(1048576:Int))/\∀ (s:Nat),(fun (q3:Int)=>s<=q1/\ai Snap.id most q0 (List.take s l)=true/\q0<=q3/\q3<=(1048576:Int)->((↑s:Int)<(↑q1:Int)->q0<=(↑s:Int)/\(↑s:Int)<(↑l.length:Int)/\∀ (x:Snap),(fun (q4:Int)=>l[s]? = some x->I64 x.id->I64 x.set->x.chunks.length*(8:Nat)<=(140737488355328:Nat)->x.tag.b.length<=(140737488355328:Nat)->I64 x.id->I64 q4/\(cg x.id q4 most=false->false=r0)/\(cg x.id q4 most=true->I64 x.id->I64 ((↑s:Int)+(1:Int))/\∃ (s':Nat),(fun (q5:Int)=>(most=most/\x.id=q5/\l=l/\(↑q1:Int)=(↑q1:Int)/\(↑s:Int)+(1:Int)=(↑s':Int))/\(s' <= q1/\ai Snap.id most q0 (List.take s' l)=true/\q0<=q5/\q5<=(1048576:Int))/\q1 - s' < q1 - s) (br Snap.id q0 (List.take s' l)))) (q3+(1:Int)))/\((↑q1:Int)<=(↑s:Int)->true=r0)) (br Snap.id q0 (List.take s l))) (br Snap.id q0 (List.take s0 l))) (0:Int)) l.length):=by kernel_rfl
theorem oU (l:List Snap) (most:Int) (h0:most<=1048576):Sat Try.prog (av aL) 103 [.c (.fz (.nm .snap) (l)),.c (.int (most)),.c (.fn 72 [] [])] [] ⟨[most<=1048576],[.c (.bool (.atom ((ai Snap.id most 0 l))))],none,false⟩:=by
 refine aY fB (j_ l most) Try.func103 (by decide) (by kernel_rfl) ?_
 rw [o_]
 (repeat' (first | with_reducible refine And.intro ?_ ?_ | with_reducible refine and_imp.2 ?_ | intro))
 all_goals try (first | (first | with_reducible rfl | with_reducible assumption | omega | (refine aq ?_ ?_ <;> omega)) | exact (ij (key:=Snap.id) (by with_reducible assumption) (by with_reducible assumption) (by with_reducible assumption)) | exact (ie (key:=Snap.id) (by with_reducible assumption) (by with_reducible assumption)) | exact (iI (key:=Snap.id) (by with_reducible assumption) (by omega)) | exact (bN (key:=Snap.id) (by with_reducible assumption)) | exact (iV (key:=Snap.id) (by with_reducible assumption) (by with_reducible assumption) (by with_reducible assumption)) | exact (iO (key:=Snap.id) (by with_reducible assumption) (by with_reducible assumption) (by with_reducible assumption)) | exact rfl | exact Int.le_refl _ | exact (show (0:Int)<=1048576 by omega))
 all_goals try (refine ⟨0,?_⟩; (repeat' (first | with_reducible refine And.intro ?_ ?_ | with_reducible refine and_imp.2 ?_ | intro)))
 all_goals try (first | (first | with_reducible rfl | with_reducible assumption | omega | (refine aq ?_ ?_ <;> omega)) | exact (ij (key:=Snap.id) (by with_reducible assumption) (by with_reducible assumption) (by with_reducible assumption)) | exact (ie (key:=Snap.id) (by with_reducible assumption) (by with_reducible assumption)) | exact (iI (key:=Snap.id) (by with_reducible assumption) (by omega)) | exact (bN (key:=Snap.id) (by with_reducible assumption)) | exact (iV (key:=Snap.id) (by with_reducible assumption) (by with_reducible assumption) (by with_reducible assumption)) | exact (iO (key:=Snap.id) (by with_reducible assumption) (by with_reducible assumption) (by with_reducible assumption)) | exact rfl | exact Int.le_refl _ | exact (show (0:Int)<=1048576 by omega))
 all_goals try (refine ⟨‹Nat› + 1,?_⟩; (repeat' (first | with_reducible refine And.intro ?_ ?_ | with_reducible refine and_imp.2 ?_ | intro)))
 all_goals (first | (first | with_reducible rfl | with_reducible assumption | omega | (refine aq ?_ ?_ <;> omega)) | exact (ij (key:=Snap.id) (by with_reducible assumption) (by with_reducible assumption) (by with_reducible assumption)) | exact (ie (key:=Snap.id) (by with_reducible assumption) (by with_reducible assumption)) | exact (iI (key:=Snap.id) (by with_reducible assumption) (by omega)) | exact (bN (key:=Snap.id) (by with_reducible assumption)) | exact (iV (key:=Snap.id) (by with_reducible assumption) (by with_reducible assumption) (by with_reducible assumption)) | exact (iO (key:=Snap.id) (by with_reducible assumption) (by with_reducible assumption) (by with_reducible assumption)) | exact rfl | exact Int.le_refl _ | exact (show (0:Int)<=1048576 by omega))
theorem Dm (x:Sess) (r0:Bool):du aL rz [] Try.f86 [.agg (cellsOf (.nm .sess) x)] [] [.c (.bool (.atom (r0)))]=(I64 x.client->I64 x.seq->I64 x.last.code->I64 x.last.n->(cg x.seq (0:Int) (1048576:Int) && cg x.last.code (0:Int) (99:Int) && cg x.last.n (0:Int) (1048576:Int))=r0):=by kernel_rfl
theorem Ey (x:Sess):Sat Try.prog (av aL) 86 [.agg (cellsOf (.nm .sess) x)] [] ⟨[],[.c (.bool (.atom ((bJ x))))],none,false⟩:=by
 refine aY fB [] Try.func86 (by decide) (by kernel_rfl) ?_
 rw [Dm]
 grind [bJ,cg]
theorem Ew (x:Opn) (r0:Bool):du aL rz [] Try.f90 [.agg (cellsOf (.nm .opn) x)] [] [.c (.bool (.atom (r0)))]=(I64 x.set->I64 x.client->cg x.client (1:Int) (8:Int)=r0):=by kernel_rfl
theorem DM (x:Opn):Sat Try.prog (av aL) 90 [.agg (cellsOf (.nm .opn) x)] [] ⟨[],[.c (.bool (.atom ((bO x))))],none,false⟩:=by
 refine aY fB [] Try.func90 (by decide) (by kernel_rfl) ?_
 rw [Ew]
 grind [bO,cg]
def px:cY:=(bX 90 (bR (ak (kT (.nm .opn)) aU) aR fun (x,_) (_)=>⟨[],[.c (.bool (.atom ((bO x))))],none,false⟩) (bX 86 (bR (ak (kT (.nm .sess)) aU) aR fun (x,_) (_)=>⟨[],[.c (.bool (.atom ((bJ x))))],none,false⟩) (bX 103 (bR (ak (kC (cL (.nm .snap))) (ak (kC cI) (ak (kC (mN 72 [] [])) aU))) aR fun (l,most,_,_) (_)=>⟨[most<=1048576],[.c (.bool (.atom ((ai Snap.id most 0 l))))],none,false⟩) (bX 87 (bR (ak (kC (cL (.nm .opn))) (ak (kC cI) (ak (kC (mN 88 [] [])) aU))) aR fun (l,most,_,_) (_)=>⟨[most<=1048576],[.c (.bool (.atom ((ai Opn.set most 0 l))))],none,false⟩) (bX 84 (bR (ak (kC (cL (.nm .sess))) (ak (kC cI) (ak (kC (mN 67 [] [])) aU))) aR fun (l,most,_,_) (_)=>⟨[most<=1048576],[.c (.bool (.atom ((ai Sess.client most 0 l))))],none,false⟩) (bX 117 (bR (ak (kC cU) aU) aR fun (n,_) (_)=>⟨[],[.c (.int (((aV n.n:Int))))],none,false⟩) rz))))))
theorem eu:bf Try.prog (av aL) px:=(aC (aB (ae bP ao) al fun (x,_) (_) _=>DM x ) (aC (aB (ae bP ao) al fun (x,_) (_) _=>Ey x ) (aC (aB (ae (aw bV) (ae (aw ax) (ae (aw ck) ao))) al fun (l,most,_,_) (_) hp=>oU l most (eO hp)) (aC (aB (ae (aw bV) (ae (aw ax) (ae (aw ck) ao))) al fun (l,most,_,_) (_) hp=>pD l most (eO hp)) (aC (aB (ae (aw bV) (ae (aw ax) (ae (aw ck) ao))) al fun (l,most,_,_) (_) hp=>oK l most (eO hp)) (aC (aB (ae (aw CF) ao) al fun (n,_) (_) _=>Dq n ) fB))))))
end Go.Proofs.Ytmmbibcfkdabeaa
namespace Go.Proofs.Ytmmbibcfkdabeaa
open Go.RowKit
theorem r_ {n k:Nat} (h:(k:Int)<aV n):(dr n k).set k (UInt8.ofNat (n / 128 ^ k) ||| UInt8.ofNat 128)=dr n (k+1):=sL (by omega)
theorem pB {n k:Nat} (h1:k<=aV n) (h2:(aV n:Int)<=(k:Int)):(dr n k).set ((aV n:Int) - 1).toNat ((dr n k).getD ((aV n:Int) - 1).toNat (dflt Sh.u8) &&& UInt8.ofNat 127)=mo n:=by
 have e:k=aV n:=by omega
 have e2:((aV n:Int) - 1).toNat=aV n - 1:=by omega
 have hl:=eN (n:=n) (Nat.le_refl _)
 have hp:=gC n
 subst e
 have hlt:aV n - 1<(dr n (aV n)).length:=by omega
 rw [e2,List.getD_eq_getElem?_getD,List.getElem?_eq_getElem hlt,Option.getD_some,sG (List.getElem?_eq_getElem hlt)]
 rfl
def Fu (n:U64):List (Nat × LI):=[(4,{ σ:=Nat,F:=fun k=>([(0,one (.u64 (n.n / 128 ^ k))),(3,one (.int (aV n.n))),(4,one (.own 0)),(10,one (.int (aV n.n))),(11,one (.int k))],[.row 5 .u8 ((dr n.n k))]),J:=fun k=>k<=aV n.n,μ:=fun k=>aV n.n - k })]
def rK (l:List Sess):List (Nat × LI):=[(2,{ σ:=Nat,F:=fun k=>([(1,one (.fn 86 [] [])),(7,one (.fz (.nm .sess) (l))),(8,one (.int (l).length)),(9,one (.int k))],[]),J:=fun k=>k<=l.length/\(l.take k).all (bJ)=true,μ:=fun k=>(l).length - k })]
def rR (l:List Opn):List (Nat × LI):=[(2,{ σ:=Nat,F:=fun k=>([(1,one (.fn 90 [] [])),(7,one (.fz (.nm .opn) (l))),(8,one (.int (l).length)),(9,one (.int k))],[]),J:=fun k=>k<=l.length/\(l.take k).all (bO)=true,μ:=fun k=>(l).length - k })]
theorem FC (n:U64) (r0:List UInt8):uy aL px (Fu n) Try.f114 [.c (.u64 (n).n)] [] [.c (.own 0)] [.row 5 .u8 (r0)]=((fun (q2:Nat)=>(fun (q1:Int)=>(fun (q0:Int)=>n.n<(18446744073709551616:Nat)->I64 q0->(0:Int)<=q0/\q0*(↑(1:Nat):Int)<=(140737488355328:Int)/\q0=q0/\∃ (s0:Nat),(fun (q3:Int)=>(n.n=n.n / (128:Nat) ^ s0/\q0=q0/\q0=q0/\(0:Int)=(↑s0:Int)/\List.replicate q2 (dflt Sh.u8)=dr n.n s0)/\s0<=q2/\∀ (s:Nat),(fun (q4:List UInt8)=>s<=q2->((↑s:Int)<q0->(0:Int)<=(↑s:Int)/\(↑s:Int)<(↑q4.length:Int)/\(7:Nat)<(64:Nat)/\I64 ((↑s:Int)+q1)/\∃ (s':Nat),(n.n / (128:Nat) ^ s / (2:Nat) ^ (7:Nat)=n.n / (128:Nat) ^ s' /\ q0=q0/\q0=q0/\(↑s:Int)+q1=(↑s':Int)/\q4.set s (UInt8.ofNat (n.n / (128:Nat) ^ s) ||| UInt8.ofNat (128:Nat))=dr n.n s')/\s' <= q2/\q2 - s' < q2 - s)/\(q0<=(↑s:Int)->I64 q3/\(0:Int)<=q3/\q3<(↑q4.length:Int)/\(0:Int)<=q3/\q3<(↑q4.length:Int)/\q4.set q3.toNat (q4.getD q3.toNat (dflt Sh.u8) &&& UInt8.ofNat (127:Nat))=r0)) (dr n.n s)) (q0 - q1)) (↑q2:Int)) (1:Int)) (aV n.n)):=by kernel_rfl
theorem EO (n:U64):Sat Try.prog (av aL) 114 [.c (.u64 (n).n)] [] ⟨[],[.c (.own 0)],some ([.row 5 .u8 ((mo n.n))]),true⟩:=by
 refine eQ eu (Fu n) Try.func114 (by decide) (by kernel_rfl) ?_
 rw [FC]
 intro hn
 have h1:=gC n.n
 have h10:=mF hn
 (repeat' (first | with_reducible refine And.intro ?_ ?_ | with_reducible refine and_imp.2 ?_ | intro))
 all_goals try (first | (first | with_reducible rfl | with_reducible assumption | omega | (refine aq ?_ ?_ <;> omega)) | exact (g_ n.n) | exact (r_ (by omega)) | exact (pB (by omega) (by omega)) | exact div_pow | exact (by rw [Nat.pow_zero,Nat.div_one]) | exact (by rw [eN (by omega)]; omega))
 all_goals try (refine ⟨0,?_⟩; (repeat' (first | with_reducible refine And.intro ?_ ?_ | with_reducible refine and_imp.2 ?_ | intro)))
 all_goals try (first | (first | with_reducible rfl | with_reducible assumption | omega | (refine aq ?_ ?_ <;> omega)) | exact (g_ n.n) | exact (r_ (by omega)) | exact (pB (by omega) (by omega)) | exact div_pow | exact (by rw [Nat.pow_zero,Nat.div_one]) | exact (by rw [eN (by omega)]; omega))
 all_goals try (refine ⟨‹Nat› + 1,?_⟩; (repeat' (first | with_reducible refine And.intro ?_ ?_ | with_reducible refine and_imp.2 ?_ | intro)))
 all_goals (first | (first | with_reducible rfl | with_reducible assumption | omega | (refine aq ?_ ?_ <;> omega)) | exact (g_ n.n) | exact (r_ (by omega)) | exact (pB (by omega) (by omega)) | exact div_pow | exact (by rw [Nat.pow_zero,Nat.div_one]) | exact (by rw [eN (by omega)]; omega))
theorem vu (l:List Sess) (r0:Bool):du aL px (rK l) Try.f85 [.c (.fz (.nm .sess) (l)),.c (.fn 86 [] [])] [] [.c (.bool (.atom (r0)))]=((fun (q0:Nat)=>l.length*(32:Nat)<=(140737488355328:Nat)->∃ (s0:Nat),(l=l/\(↑l.length:Int)=(↑q0:Int)/\(0:Int)=(↑s0:Int))/\(s0<=q0/\(List.take s0 l).all bJ=true)/\∀ (s:Nat),s<=q0/\(List.take s l).all bJ=true->((↑s:Int)<(↑q0:Int)->(0:Int)<=(↑s:Int)/\(↑s:Int)<(↑l.length:Int)/\∀ (x:Sess),l[s]? = some x->I64 x.client->I64 x.seq->I64 x.last.code->I64 x.last.n->(bJ x=false->false=r0)/\(bJ x=true->I64 ((↑s:Int)+(1:Int))/\∃ (s':Nat),(l=l/\(↑q0:Int)=(↑q0:Int)/\(↑s:Int)+(1:Int)=(↑s':Int))/\(s' <= q0/\(List.take s' l).all bJ=true)/\q0 - s' < q0 - s))/\((↑q0:Int)<=(↑s:Int)->true=r0)) l.length):=by kernel_rfl
theorem vH (l:List Sess):Sat Try.prog (av aL) 85 [.c (.fz (.nm .sess) (l)),.c (.fn 86 [] [])] [] ⟨[],[.c (.bool (.atom ((l.all (bJ)))))],none,false⟩:=by
 refine aY eu (rK l) Try.func85 (by decide) (by kernel_rfl) ?_
 rw [vu]
 (repeat' (first | with_reducible refine And.intro ?_ ?_ | with_reducible refine and_imp.2 ?_ | intro))
 all_goals try (first | (first | with_reducible rfl | with_reducible assumption | omega | (refine aq ?_ ?_ <;> omega)) | exact (dm (p:=bJ) (by with_reducible assumption) (by with_reducible assumption) (by with_reducible assumption)) | exact (iR (p:=bJ) (by with_reducible assumption) (by with_reducible assumption)) | exact (iL (p:=bJ) (by with_reducible assumption) (by omega)) | exact rfl)
 all_goals try (refine ⟨0,?_⟩; (repeat' (first | with_reducible refine And.intro ?_ ?_ | with_reducible refine and_imp.2 ?_ | intro)))
 all_goals try (first | (first | with_reducible rfl | with_reducible assumption | omega | (refine aq ?_ ?_ <;> omega)) | exact (dm (p:=bJ) (by with_reducible assumption) (by with_reducible assumption) (by with_reducible assumption)) | exact (iR (p:=bJ) (by with_reducible assumption) (by with_reducible assumption)) | exact (iL (p:=bJ) (by with_reducible assumption) (by omega)) | exact rfl)
 all_goals try (refine ⟨‹Nat› + 1,?_⟩; (repeat' (first | with_reducible refine And.intro ?_ ?_ | with_reducible refine and_imp.2 ?_ | intro)))
 all_goals (first | (first | with_reducible rfl | with_reducible assumption | omega | (refine aq ?_ ?_ <;> omega)) | exact (dm (p:=bJ) (by with_reducible assumption) (by with_reducible assumption) (by with_reducible assumption)) | exact (iR (p:=bJ) (by with_reducible assumption) (by with_reducible assumption)) | exact (iL (p:=bJ) (by with_reducible assumption) (by omega)) | exact rfl)
theorem vV (l:List Opn) (r0:Bool):du aL px (rR l) Try.f89 [.c (.fz (.nm .opn) (l)),.c (.fn 90 [] [])] [] [.c (.bool (.atom (r0)))]=((fun (q0:Nat)=>l.length*(16:Nat)<=(140737488355328:Nat)->∃ (s0:Nat),(l=l/\(↑l.length:Int)=(↑q0:Int)/\(0:Int)=(↑s0:Int))/\(s0<=q0/\(List.take s0 l).all bO=true)/\∀ (s:Nat),s<=q0/\(List.take s l).all bO=true->((↑s:Int)<(↑q0:Int)->(0:Int)<=(↑s:Int)/\(↑s:Int)<(↑l.length:Int)/\∀ (x:Opn),l[s]? = some x->I64 x.set->I64 x.client->(bO x=false->false=r0)/\(bO x=true->I64 ((↑s:Int)+(1:Int))/\∃ (s':Nat),(l=l/\(↑q0:Int)=(↑q0:Int)/\(↑s:Int)+(1:Int)=(↑s':Int))/\(s' <= q0/\(List.take s' l).all bO=true)/\q0 - s' < q0 - s))/\((↑q0:Int)<=(↑s:Int)->true=r0)) l.length):=by kernel_rfl
theorem vl (l:List Opn):Sat Try.prog (av aL) 89 [.c (.fz (.nm .opn) (l)),.c (.fn 90 [] [])] [] ⟨[],[.c (.bool (.atom ((l.all (bO)))))],none,false⟩:=by
 refine aY eu (rR l) Try.func89 (by decide) (by kernel_rfl) ?_
 rw [vV]
 (repeat' (first | with_reducible refine And.intro ?_ ?_ | with_reducible refine and_imp.2 ?_ | intro))
 all_goals try (first | (first | with_reducible rfl | with_reducible assumption | omega | (refine aq ?_ ?_ <;> omega)) | exact (dm (p:=bO) (by with_reducible assumption) (by with_reducible assumption) (by with_reducible assumption)) | exact (iR (p:=bO) (by with_reducible assumption) (by with_reducible assumption)) | exact (iL (p:=bO) (by with_reducible assumption) (by omega)) | exact rfl)
 all_goals try (refine ⟨0,?_⟩; (repeat' (first | with_reducible refine And.intro ?_ ?_ | with_reducible refine and_imp.2 ?_ | intro)))
 all_goals try (first | (first | with_reducible rfl | with_reducible assumption | omega | (refine aq ?_ ?_ <;> omega)) | exact (dm (p:=bO) (by with_reducible assumption) (by with_reducible assumption) (by with_reducible assumption)) | exact (iR (p:=bO) (by with_reducible assumption) (by with_reducible assumption)) | exact (iL (p:=bO) (by with_reducible assumption) (by omega)) | exact rfl)
 all_goals try (refine ⟨‹Nat› + 1,?_⟩; (repeat' (first | with_reducible refine And.intro ?_ ?_ | with_reducible refine and_imp.2 ?_ | intro)))
 all_goals (first | (first | with_reducible rfl | with_reducible assumption | omega | (refine aq ?_ ?_ <;> omega)) | exact (dm (p:=bO) (by with_reducible assumption) (by with_reducible assumption) (by with_reducible assumption)) | exact (iR (p:=bO) (by with_reducible assumption) (by with_reducible assumption)) | exact (iL (p:=bO) (by with_reducible assumption) (by omega)) | exact rfl)
theorem nX (l:List Sess) (r0:List Sess):uy aL px [] Try.f60 [.c (.fz (.nm .sess) (l))] [] [.c (.own 0)] [.row 42 (.nm .sess) (r0)]=((fun (q0:Prop)=>q0->∀ (b:Bool),(b=true->l=[])->(b=true->r0=[])/\(b=false->q0/\l=r0)) (l.length*(32:Nat)<=(140737488355328:Nat))):=by kernel_rfl
theorem pj (l:List Sess):Sat Try.prog (av aL) 60 [.c (.fz (.nm .sess) (l))] [] ⟨[],[.c (.own 0)],some ([.row 42 (.nm .sess) ((l))]),true⟩:=by
 refine eQ eu [] Try.func60 (by decide) (by kernel_rfl) ?_
 rw [nX]
 exact fun h b hb=>⟨hb,fun _=>⟨h,rfl⟩⟩
theorem pZ (l:List Opn) (r0:List Opn):uy aL px [] Try.f61 [.c (.fz (.nm .opn) (l))] [] [.c (.own 0)] [.row 51 (.nm .opn) (r0)]=((fun (q0:Prop)=>q0->∀ (b:Bool),(b=true->l=[])->(b=true->r0=[])/\(b=false->q0/\l=r0)) (l.length*(16:Nat)<=(140737488355328:Nat))):=by kernel_rfl
theorem qi (l:List Opn):Sat Try.prog (av aL) 61 [.c (.fz (.nm .opn) (l))] [] ⟨[],[.c (.own 0)],some ([.row 51 (.nm .opn) ((l))]),true⟩:=by
 refine eQ eu [] Try.func61 (by decide) (by kernel_rfl) ?_
 rw [pZ]
 exact fun h b hb=>⟨hb,fun _=>⟨h,rfl⟩⟩
theorem oC (l:List Snap) (r0:List Snap):uy aL px [] Try.f62 [.c (.fz (.nm .snap) (l))] [] [.c (.own 0)] [.row 46 (.nm .snap) (r0)]=((fun (q0:Prop)=>q0->∀ (b:Bool),(b=true->l=[])->(b=true->r0=[])/\(b=false->q0/\l=r0)) (l.length*(64:Nat)<=(140737488355328:Nat))):=by kernel_rfl
theorem oy (l:List Snap):Sat Try.prog (av aL) 62 [.c (.fz (.nm .snap) (l))] [] ⟨[],[.c (.own 0)],some ([.row 46 (.nm .snap) ((l))]),true⟩:=by
 refine eQ eu [] Try.func62 (by decide) (by kernel_rfl) ?_
 rw [oC]
 exact fun h b hb=>⟨hb,fun _=>⟨h,rfl⟩⟩
theorem qn (l:List Int) (r0:List Int):du aL px [] Try.f63 [.c (.fz .int (l))] [] [.c (.fz .int (r0))]=((fun (q0:Prop)=>q0->∀ (b:Bool),(b=true->l=[])->(b=true->r0=[])/\(b=false->q0/\l=r0)) (l.length*(8:Nat)<=(140737488355328:Nat))):=by kernel_rfl
theorem qR (l:List Int):Sat Try.prog (av aL) 63 [.c (.fz .int (l))] [] ⟨[],[.c (.fz .int ((l)))],none,false⟩:=by
 refine aY eu [] Try.func63 (by decide) (by kernel_rfl) ?_
 rw [qn]
 intros; repeat' (first | refine And.intro ?_ ?_ | intro)
 all_goals first | rfl | assumption | simp_all
def qv:cY:=(bX 63 (bR (ak (kC (cL .int)) aU) aR fun (l,_) (_)=>⟨[],[.c (.fz .int ((l)))],none,false⟩) (bX 62 (bR (ak (kC (cL (.nm .snap))) aU) aR fun (l,_) (_)=>⟨[],[.c (.own 0)],some ([.row 46 (.nm .snap) ((l))]),true⟩) (bX 61 (bR (ak (kC (cL (.nm .opn))) aU) aR fun (l,_) (_)=>⟨[],[.c (.own 0)],some ([.row 51 (.nm .opn) ((l))]),true⟩) (bX 60 (bR (ak (kC (cL (.nm .sess))) aU) aR fun (l,_) (_)=>⟨[],[.c (.own 0)],some ([.row 42 (.nm .sess) ((l))]),true⟩) (bX 89 (bR (ak (kC (cL (.nm .opn))) (ak (kC (mN 90 [] [])) aU)) aR fun (l,_,_) (_)=>⟨[],[.c (.bool (.atom ((l.all (bO)))))],none,false⟩) (bX 85 (bR (ak (kC (cL (.nm .sess))) (ak (kC (mN 86 [] [])) aU)) aR fun (l,_,_) (_)=>⟨[],[.c (.bool (.atom ((l.all (bJ)))))],none,false⟩) (bX 114 (bR (ak (kC cU) aU) aR fun (n,_) (_)=>⟨[],[.c (.own 0)],some ([.row 5 .u8 ((mo n.n))]),true⟩) px)))))))
theorem fi:bf Try.prog (av aL) qv:=(aC (aB (ae (aw bV) ao) al fun (l,_) (_) _=>qR l ) (aC (aB (ae (aw bV) ao) al fun (l,_) (_) _=>oy l ) (aC (aB (ae (aw bV) ao) al fun (l,_) (_) _=>qi l ) (aC (aB (ae (aw bV) ao) al fun (l,_) (_) _=>pj l ) (aC (aB (ae (aw bV) (ae (aw ck) ao)) al fun (l,_,_) (_) _=>vl l ) (aC (aB (ae (aw bV) (ae (aw ck) ao)) al fun (l,_,_) (_) _=>vH l ) (aC (aB (ae (aw CF) ao) al fun (n,_) (_) _=>EO n ) eu)))))))
end Go.Proofs.Ytmmbibcfkdabeaa
namespace Go.Proofs.Ytmmbibcfkdabeaa
open Go.RowKit
theorem s_ {x:Int} {l:List Int} {k:Nat} (h:eP x (l.take k) = -1) (hk:l.length<=k):-1=eP x l:=by rw [List.take_of_length_le hk] at h; exact h.symm
theorem ox {x y:Int} {l:List Int} {k:Nat} (h:eP x (l.take k) = -1) (hy:l[k]? = some y) (e:x=y):(k:Int)=eP x l:=by
 refine xp (fun j z hj hz hc=>?_) hy e
 have hm:z ∈ l.take k:=by
  obtain ⟨h1,h2⟩:=List.getElem?_eq_some_iff.1 hz
  rw [List.mem_take_iff_getElem]; exact ⟨j,by omega,h2⟩
 have:decide (0<=eP x (l.take k))=true:=by rw [uv,List.contains_iff_mem,hc]; exact hm
 rw [decide_eq_true_eq] at this; omega
theorem sU {x y:Int} {l:List Int} {k:Nat} (h:eP x (l.take k) = -1) (hy:l[k]? = some y) (e:¬ x=y):eP x (l.take (k+1)) = -1:=by
 have h0:(l.take k).contains x=false:=by
  have:=uv x (l.take k)
  rw [<- this,h]; decide
 have h1:(l.take (k+1)).contains x=false:=by
  rw [aF hy,<- Bool.not_eq_true,List.contains_iff_mem] at *
  intro hm
  rcases List.mem_append.1 hm with hm | hm
  ·exact h0 hm
  ·exact e (List.mem_singleton.1 hm)
 rw [<- uv,decide_eq_false_iff_not] at h1
 unfold eP at h1 ⊢
 split
 ·rename_i i hi; rw [hi] at h1; dsimp only at h1; omega
 ·rfl
theorem CM {l:List Int} {k:Nat} {x:Int} (hr:dh l=true) (hx:l[k]? = some x):0<=x:=Int.le_of_lt (sC hr x (List.mem_of_getElem? hx)).1
theorem rW {l:List Int} {k:Nat} {x:Int} (hr:dh l=true) (hx:l[k]? = some x):((ef (l.take k)).length+(mo x.toNat).length)*1<=140737488355328:=by
 have h1:=xe (l:=l.take k) (fun x hx=>(sC hr x (List.mem_of_mem_take hx)).2)
 have h2:=oT hr
 have h3:=sC hr x (List.mem_of_getElem? hx)
 have h4:=kV (n:=x.toNat) (by omega)
 rw [List.length_take] at h1; omega
def wC (l:List Int) (x:Int):List (Nat × LI):=[(2,{ σ:=Nat,F:=fun k=>([(0,one (.fz .int (l))),(1,one (.int (x))),(7,one (.int (l).length)),(8,one (.int k))],[]),J:=fun k=>k<=l.length/\eP x (l.take k) = -1,μ:=fun k=>(l).length - k })]
def tH (l:List Int):List (Nat × LI):=[(5,{ σ:=Nat,F:=fun k=>([(4,one (.own 0)),(10,one (.fz .int (l))),(11,one (.int (l).length)),(12,one (.int k))],[.row 5 .u8 ((ef (l.take k)))]),J:=fun k=>k<=l.length/\dh l=true,μ:=fun k=>(l).length - k })]
theorem AF (l:List Int) (x:Int) (r0:Int):du aL qv (wC l x) Try.f115 [.c (.fz .int (l)),.c (.int (x))] [] [.c (.int (r0))]=((fun (q1:Int)=>(fun (q0:Nat)=>l.length*(8:Nat)<=(140737488355328:Nat)->I64 x->∃ (s0:Nat),(l=l/\x=x/\(↑l.length:Int)=(↑q0:Int)/\(0:Int)=(↑s0:Int))/\(s0<=q0/\eP x (List.take s0 l) = -q1)/\∀ (s:Nat),s<=q0/\eP x (List.take s l) = -q1->((↑s:Int)<(↑q0:Int)->(0:Int)<=(↑s:Int)/\(↑s:Int)<(↑l.length:Int)/\∀ (x_1:Int),l[s]? = some x_1->I64 x_1->(x=x_1->(↑s:Int)=r0)/\(¬x=x_1->I64 ((↑s:Int)+q1)/\∃ (s':Nat),(l=l/\x=x/\(↑q0:Int)=(↑q0:Int)/\(↑s:Int)+q1=(↑s':Int))/\(s' <= q0/\eP x (List.take s' l) = -q1)/\q0 - s' < q0 - s))/\((↑q0:Int)<=(↑s:Int) -> -q1=r0)) l.length) (1:Int)):=by kernel_rfl
theorem BW (l:List Int) (x:Int):Sat Try.prog (av aL) 115 [.c (.fz .int (l)),.c (.int (x))] [] ⟨[],[.c (.int ((eP x l)))],none,false⟩:=by
 refine aY fi (wC l x) Try.func115 (by decide) (by kernel_rfl) ?_
 rw [AF]
 (repeat' (first | with_reducible refine And.intro ?_ ?_ | with_reducible refine and_imp.2 ?_ | intro))
 all_goals try (first | (first | with_reducible rfl | with_reducible assumption | omega | (refine aq ?_ ?_ <;> omega)) | exact rfl | exact (s_ (by with_reducible assumption) (by omega)) | exact (ox (by with_reducible assumption) (by with_reducible assumption) (by with_reducible assumption)) | exact (sU (by with_reducible assumption) (by with_reducible assumption) (by with_reducible assumption)))
 all_goals try (refine ⟨0,?_⟩; (repeat' (first | with_reducible refine And.intro ?_ ?_ | with_reducible refine and_imp.2 ?_ | intro)))
 all_goals try (first | (first | with_reducible rfl | with_reducible assumption | omega | (refine aq ?_ ?_ <;> omega)) | exact rfl | exact (s_ (by with_reducible assumption) (by omega)) | exact (ox (by with_reducible assumption) (by with_reducible assumption) (by with_reducible assumption)) | exact (sU (by with_reducible assumption) (by with_reducible assumption) (by with_reducible assumption)))
 all_goals try (refine ⟨‹Nat› + 1,?_⟩; (repeat' (first | with_reducible refine And.intro ?_ ?_ | with_reducible refine and_imp.2 ?_ | intro)))
 all_goals (first | (first | with_reducible rfl | with_reducible assumption | omega | (refine aq ?_ ?_ <;> omega)) | exact rfl | exact (s_ (by with_reducible assumption) (by omega)) | exact (ox (by with_reducible assumption) (by with_reducible assumption) (by with_reducible assumption)) | exact (sU (by with_reducible assumption) (by with_reducible assumption) (by with_reducible assumption)))
theorem BC (n:Int) (most:Int) (named:Bool) (r0:Bool):du aL qv [] Try.f109 [.c (.int (n)),.c (.int (most)),.c (.bool (.atom (named)))] [] [.c (.bool (.atom (r0)))]=(I64 n->I64 most->(named=true->(decide ((1:Int)<=n) && decide (n<=most))=r0)/\(named=false->decide (n=(0:Int))=r0)):=by kernel_rfl
theorem Ak (n:Int) (most:Int) (named:Bool):Sat Try.prog (av aL) 109 [.c (.int (n)),.c (.int (most)),.c (.bool (.atom (named)))] [] ⟨[],[.c (.bool (.atom ((fF n most named))))],none,false⟩:=by
 refine aY fi [] Try.func109 (by decide) (by kernel_rfl) ?_
 rw [BC]
 grind [fF]
theorem za (l:List Int) (r0:List UInt8) (r1:Int):du aL qv (tH l) Try.f106 [.c (.fz .int (l))] [] [.c (.fz .u8 (r0)),.c (.int (r1))]=((fun (q1:Prop)=>(fun (q0:Nat)=>l.length*(8:Nat)<=(140737488355328:Nat)->(dh l=false->r0=[]/\(1:Int)=r1)/\(q1->∃ (s0:Nat),(l=l/\(↑l.length:Int)=(↑q0:Int)/\(0:Int)=(↑s0:Int)/\ef (List.take s0 l)=[])/\(s0<=q0/\q1)/\∀ (s:Nat),s<=q0/\q1->((↑s:Int)<(↑q0:Int)->(0:Int)<=(↑s:Int)/\(↑s:Int)<(↑l.length:Int)/\∀ (x:Int),l[s]? = some x->I64 x->(0:Int)<=x/\((ef (List.take s l)).length+(mo x.toNat).length)*(1:Nat)<=(140737488355328:Nat)/\I64 ((↑s:Int)+(1:Int))/\∃ (s':Nat),(l=l/\(↑q0:Int)=(↑q0:Int)/\(↑s:Int)+(1:Int)=(↑s':Int)/\ef (List.take s l)++mo x.toNat=ef (List.take s' l))/\(s' <= q0/\q1)/\q0 - s' < q0 - s)/\((↑q0:Int)<=(↑s:Int)->ef (List.take s l)=r0/\(0:Int)=r1))) l.length) (dh l=true)):=by kernel_rfl
theorem yp (l:List Int):Sat Try.prog (av aL) 106 [.c (.fz .int (l))] [] ⟨[],[.c (.fz .u8 ((fg l))),.c (.int ((cR l)))],none,false⟩:=by
 refine aY fi (tH l) Try.func106 (by decide) (by kernel_rfl) ?_
 rw [za]
 (repeat' (first | with_reducible refine And.intro ?_ ?_ | with_reducible refine and_imp.2 ?_ | intro))
 all_goals try (first | (first | with_reducible rfl | with_reducible assumption | omega | (refine aq ?_ ?_ <;> omega)) | exact rfl | exact (jJ (by with_reducible assumption)).symm | exact (fb (by with_reducible assumption)) | exact (eA (by with_reducible assumption)) | exact (lP (by with_reducible assumption) (by omega)) | exact (jn (by with_reducible assumption)) | exact (CM (by with_reducible assumption) (by with_reducible assumption)) | exact (rW (by with_reducible assumption) (by with_reducible assumption)))
 all_goals try (refine ⟨0,?_⟩; (repeat' (first | with_reducible refine And.intro ?_ ?_ | with_reducible refine and_imp.2 ?_ | intro)))
 all_goals try (first | (first | with_reducible rfl | with_reducible assumption | omega | (refine aq ?_ ?_ <;> omega)) | exact rfl | exact (jJ (by with_reducible assumption)).symm | exact (fb (by with_reducible assumption)) | exact (eA (by with_reducible assumption)) | exact (lP (by with_reducible assumption) (by omega)) | exact (jn (by with_reducible assumption)) | exact (CM (by with_reducible assumption) (by with_reducible assumption)) | exact (rW (by with_reducible assumption) (by with_reducible assumption)))
 all_goals try (refine ⟨‹Nat› + 1,?_⟩; (repeat' (first | with_reducible refine And.intro ?_ ?_ | with_reducible refine and_imp.2 ?_ | intro)))
 all_goals (first | (first | with_reducible rfl | with_reducible assumption | omega | (refine aq ?_ ?_ <;> omega)) | exact rfl | exact (jJ (by with_reducible assumption)).symm | exact (fb (by with_reducible assumption)) | exact (eA (by with_reducible assumption)) | exact (lP (by with_reducible assumption) (by omega)) | exact (jn (by with_reducible assumption)) | exact (CM (by with_reducible assumption) (by with_reducible assumption)) | exact (rW (by with_reducible assumption) (by with_reducible assumption)))
theorem xh (s:State) (x:Int) (r0:Int):du aL qv [] Try.f30 [.agg (cellsOf (.nm .state) s),.c (.int (x))] [] [.c (.int (r0))]=(I64 s.version->I64 s.next->I64 s.keep->I64 s.quota->s.sess.length*(32:Nat)<=(140737488355328:Nat)->s.opens.length*(16:Nat)<=(140737488355328:Nat)->s.snaps.length*(64:Nat)<=(140737488355328:Nat)->I64 x->I64 (ah Sess.client x s.sess)->ah Sess.client x s.sess=r0):=by kernel_rfl
theorem yU (s:State) (x:Int):Sat Try.prog (av aL) 30 [.agg (cellsOf (.nm .state) s),.c (.int (x))] [] ⟨[],[.c (.int ((ah Sess.client x s.sess)))],none,false⟩:=by
 refine aY fi [] Try.func30 (by decide) (by kernel_rfl) ?_
 rw [xh]
 grind
theorem xJ (s:State) (x:Int) (r0:Int):du aL qv [] Try.f73 [.agg (cellsOf (.nm .state) s),.c (.int (x))] [] [.c (.int (r0))]=(I64 s.version->I64 s.next->I64 s.keep->I64 s.quota->s.sess.length*(32:Nat)<=(140737488355328:Nat)->s.opens.length*(16:Nat)<=(140737488355328:Nat)->s.snaps.length*(64:Nat)<=(140737488355328:Nat)->I64 x->I64 (ah Opn.set x s.opens)->ah Opn.set x s.opens=r0):=by kernel_rfl
theorem zY (s:State) (x:Int):Sat Try.prog (av aL) 73 [.agg (cellsOf (.nm .state) s),.c (.int (x))] [] ⟨[],[.c (.int ((ah Opn.set x s.opens)))],none,false⟩:=by
 refine aY fi [] Try.func73 (by decide) (by kernel_rfl) ?_
 rw [xJ]
 grind
theorem wZ (s:State) (x:Int) (r0:Int):du aL qv [] Try.f43 [.agg (cellsOf (.nm .state) s),.c (.int (x))] [] [.c (.int (r0))]=(I64 s.version->I64 s.next->I64 s.keep->I64 s.quota->s.sess.length*(32:Nat)<=(140737488355328:Nat)->s.opens.length*(16:Nat)<=(140737488355328:Nat)->s.snaps.length*(64:Nat)<=(140737488355328:Nat)->I64 x->I64 (ah Snap.id x s.snaps)->ah Snap.id x s.snaps=r0):=by kernel_rfl
theorem wI (s:State) (x:Int):Sat Try.prog (av aL) 43 [.agg (cellsOf (.nm .state) s),.c (.int (x))] [] ⟨[],[.c (.int ((ah Snap.id x s.snaps)))],none,false⟩:=by
 refine aY fi [] Try.func43 (by decide) (by kernel_rfl) ?_
 rw [wZ]
 grind
def AJ:cY:=(bX 43 (bR (ak (kT (.nm .state)) (ak (kC cI) aU)) aR fun (s,x,_) (_)=>⟨[],[.c (.int ((ah Snap.id x s.snaps)))],none,false⟩) (bX 73 (bR (ak (kT (.nm .state)) (ak (kC cI) aU)) aR fun (s,x,_) (_)=>⟨[],[.c (.int ((ah Opn.set x s.opens)))],none,false⟩) (bX 30 (bR (ak (kT (.nm .state)) (ak (kC cI) aU)) aR fun (s,x,_) (_)=>⟨[],[.c (.int ((ah Sess.client x s.sess)))],none,false⟩) (bX 106 (bR (ak (kC (cL .int)) aU) aR fun (l,_) (_)=>⟨[],[.c (.fz .u8 ((fg l))),.c (.int ((cR l)))],none,false⟩) (bX 109 (bR (ak (kC cI) (ak (kC cI) (ak (kC cB) aU))) aR fun (n,most,named,_) (_)=>⟨[],[.c (.bool (.atom ((fF n most named))))],none,false⟩) (bX 115 (bR (ak (kC (cL .int)) (ak (kC cI) aU)) aR fun (l,x,_) (_)=>⟨[],[.c (.int ((eP x l)))],none,false⟩) qv))))))
theorem pb:bf Try.prog (av aL) AJ:=(aC (aB (ae bP (ae (aw ax) ao)) al fun (s,x,_) (_) _=>wI s x ) (aC (aB (ae bP (ae (aw ax) ao)) al fun (s,x,_) (_) _=>zY s x ) (aC (aB (ae bP (ae (aw ax) ao)) al fun (s,x,_) (_) _=>yU s x ) (aC (aB (ae (aw bV) ao) al fun (l,_) (_) _=>yp l ) (aC (aB (ae (aw ax) (ae (aw ax) (ae (aw qK) ao))) al fun (n,most,named,_) (_) _=>Ak n most named ) (aC (aB (ae (aw bV) (ae (aw ax) ao)) al fun (l,x,_) (_) _=>BW l x ) fi))))))
end Go.Proofs.Ytmmbibcfkdabeaa
namespace Go.Proofs.Ytmmbibcfkdabeaa
open Go.RowKit
theorem rX (l:List Int) (x:Int) (r0:Bool):du aL AJ [] Try.f108 [.c (.fz .int (l)),.c (.int (x))] [] [.c (.bool (.atom (r0)))]=(l.length*(8:Nat)<=(140737488355328:Nat)->I64 x->I64 (eP x l)->decide ((0:Int)<=eP x l)=r0):=by kernel_rfl
theorem th (l:List Int) (x:Int):Sat Try.prog (av aL) 108 [.c (.fz .int (l)),.c (.int (x))] [] ⟨[],[.c (.bool (.atom ((l.contains x))))],none,false⟩:=by
 refine aY pb [] Try.func108 (by decide) (by kernel_rfl) ?_
 rw [rX]
 intros; exact uv _ _
theorem xy (x:Snap) (v:Int) (t:Int) (r0:Bool):du aL AJ [] Try.f105 [.agg (cellsOf (.nm .snap) x),.c (.ptr 0 0),.c (.ptr 1 0)] [.box 3 ([.int (v)]),.box 3 ([.int (t)])] [.c (.bool (.atom (r0)))]=(I64 x.id->I64 x.set->x.chunks.length*(8:Nat)<=(140737488355328:Nat)->x.tag.b.length<=(140737488355328:Nat)->(fg x.chunks).length*(1:Nat)<=(140737488355328:Nat)->I64 (cR x.chunks)->(decide (cR x.chunks=(0:Int)) && cg x.set (1:Int) (8:Int) && (!x.held || decide ((2:Int)<=v)) && decide ((↑x.tag.b.length:Int)<=t))=r0):=by kernel_rfl
theorem yw (x:Snap) (v:Int) (t:Int):Sat Try.prog (av aL) 105 [.agg (cellsOf (.nm .snap) x),.c (.ptr 0 0),.c (.ptr 1 0)] [.box 3 ([.int (v)]),.box 3 ([.int (t)])] ⟨[],[.c (.bool (.atom ((bk v t x))))],none,false⟩:=by
 refine aY pb [] Try.func105 (by decide) (by kernel_rfl) ?_
 rw [xy]
 intros; rfl
def Al:cY:=(bX 105 (bR (ak (kT (.nm .snap)) (ak (kC (bL 0 0)) (ak (kC (bL 1 0)) aU))) (ay (bK 3 (aj cI bG)) (ay (bK 3 (aj cI bG)) aR)) fun (x,_,_,_) ((v,_),(t,_),_)=>⟨[],[.c (.bool (.atom ((bk v t x))))],none,false⟩) (bX 108 (bR (ak (kC (cL .int)) (ak (kC cI) aU)) aR fun (l,x,_) (_)=>⟨[],[.c (.bool (.atom ((l.contains x))))],none,false⟩) AJ))
theorem po:bf Try.prog (av aL) Al:=(aC (aB (ae bP (ae (aw aJ) (ae (aw aJ) ao))) (ag (aH (ab ax aG)) (ag (aH (ab ax aG)) al)) fun (x,_,_,_) ((v,_),(t,_),_) _=>yw x v t ) (aC (aB (ae (aw bV) (ae (aw ax) ao)) al fun (l,x,_) (_) _=>th l x ) pb))
end Go.Proofs.Ytmmbibcfkdabeaa
namespace Go.Proofs.Ytmmbibcfkdabeaa
open Go.RowKit
def pS (l:List Snap) (v:Int) (t:Int):List (Nat × LI):=[(2,{ σ:=Nat,F:=fun k=>([(1,one (.fn 105 [] [(0,0),(1,0)])),(7,one (.fz (.nm .snap) (l))),(8,one (.int (l).length)),(9,one (.int k))],[.box 3 ([.int ((v))]),.box 3 ([.int ((t))])]),J:=fun k=>k<=l.length/\(l.take k).all ((bk v t))=true,μ:=fun k=>(l).length - k })]
theorem AL (l:List Int) (c:Command) (r0:Bool):du aL Al [] Try.f107 [.c (.fz .int (l)),.c (.ptr 0 0)] [.box 29 (cellsOf (.nm .command) (c))] [.c (.bool (.atom (r0)))]=(l.length*(8:Nat)<=(140737488355328:Nat)->l.contains c.kind=r0):=by kernel_rfl
theorem Aw (l:List Int) (c:Command):Sat Try.prog (av aL) 107 [.c (.fz .int (l)),.c (.ptr 0 0)] [.box 29 (cellsOf (.nm .command) (c))] ⟨[],[.c (.bool (.atom ((l.contains c.kind))))],none,false⟩:=by
 refine aY po [] Try.func107 (by decide) (by kernel_rfl) ?_
 rw [AL]
 grind
theorem wg (l:List Snap) (v:Int) (t:Int) (r0:Bool):du aL Al (pS l v t) Try.f104 [.c (.fz (.nm .snap) (l)),.c (.fn 105 [] [(0,0),(1,0)])] [.box 3 ([.int (v)]),.box 3 ([.int (t)])] [.c (.bool (.atom (r0)))]=((fun (q0:Nat)=>l.length*(64:Nat)<=(140737488355328:Nat)->∃ (s0:Nat),(l=l/\(↑l.length:Int)=(↑q0:Int)/\(0:Int)=(↑s0:Int)/\v=v/\t=t)/\(s0<=q0/\(List.take s0 l).all (bk v t)=true)/\∀ (s:Nat),s<=q0/\(List.take s l).all (bk v t)=true->((↑s:Int)<(↑q0:Int)->(0:Int)<=(↑s:Int)/\(↑s:Int)<(↑l.length:Int)/\∀ (x:Snap),l[s]? = some x->I64 x.id->I64 x.set->x.chunks.length*(8:Nat)<=(140737488355328:Nat)->x.tag.b.length<=(140737488355328:Nat)->(bk v t x=false->false=r0)/\(bk v t x=true->I64 ((↑s:Int)+(1:Int))/\∃ (s':Nat),(l=l/\(↑q0:Int)=(↑q0:Int)/\(↑s:Int)+(1:Int)=(↑s':Int)/\v=v/\t=t)/\(s' <= q0/\(List.take s' l).all (bk v t)=true)/\q0 - s' < q0 - s))/\((↑q0:Int)<=(↑s:Int)->true=r0)) l.length):=by kernel_rfl
theorem vq (l:List Snap) (v:Int) (t:Int):Sat Try.prog (av aL) 104 [.c (.fz (.nm .snap) (l)),.c (.fn 105 [] [(0,0),(1,0)])] [.box 3 ([.int (v)]),.box 3 ([.int (t)])] ⟨[],[.c (.bool (.atom ((l.all ((bk v t))))))],none,false⟩:=by
 refine aY po (pS l v t) Try.func104 (by decide) (by kernel_rfl) ?_
 rw [wg]
 (repeat' (first | with_reducible refine And.intro ?_ ?_ | with_reducible refine and_imp.2 ?_ | intro))
 all_goals try (first | (first | with_reducible rfl | with_reducible assumption | omega | (refine aq ?_ ?_ <;> omega)) | exact (dm (p:=(bk v t)) (by with_reducible assumption) (by with_reducible assumption) (by with_reducible assumption)) | exact (iR (p:=(bk v t)) (by with_reducible assumption) (by with_reducible assumption)) | exact (iL (p:=(bk v t)) (by with_reducible assumption) (by omega)) | exact rfl)
 all_goals try (refine ⟨0,?_⟩; (repeat' (first | with_reducible refine And.intro ?_ ?_ | with_reducible refine and_imp.2 ?_ | intro)))
 all_goals try (first | (first | with_reducible rfl | with_reducible assumption | omega | (refine aq ?_ ?_ <;> omega)) | exact (dm (p:=(bk v t)) (by with_reducible assumption) (by with_reducible assumption) (by with_reducible assumption)) | exact (iR (p:=(bk v t)) (by with_reducible assumption) (by with_reducible assumption)) | exact (iL (p:=(bk v t)) (by with_reducible assumption) (by omega)) | exact rfl)
 all_goals try (refine ⟨‹Nat› + 1,?_⟩; (repeat' (first | with_reducible refine And.intro ?_ ?_ | with_reducible refine and_imp.2 ?_ | intro)))
 all_goals (first | (first | with_reducible rfl | with_reducible assumption | omega | (refine aq ?_ ?_ <;> omega)) | exact (dm (p:=(bk v t)) (by with_reducible assumption) (by with_reducible assumption) (by with_reducible assumption)) | exact (iR (p:=(bk v t)) (by with_reducible assumption) (by with_reducible assumption)) | exact (iL (p:=(bk v t)) (by with_reducible assumption) (by omega)) | exact rfl)
def Aq:cY:=(bX 104 (bR (ak (kC (cL (.nm .snap))) (ak (kC (mN 105 [] [(0,0),(1,0)])) aU)) (ay (bK 3 (aj cI bG)) (ay (bK 3 (aj cI bG)) aR)) fun (l,_,_) ((v,_),(t,_),_)=>⟨[],[.c (.bool (.atom ((l.all ((bk v t))))))],none,false⟩) (bX 107 (bR (ak (kC (cL .int)) (ak (kC (bL 0 0)) aU)) (ay (bK 29 (pL (.nm .command) bG)) aR) fun (l,_,_) ((c,_),_)=>⟨[],[.c (.bool (.atom ((l.contains c.kind))))],none,false⟩) Al))
theorem pG:bf Try.prog (av aL) Aq:=(aC (aB (ae (aw bV) (ae (aw ck) ao)) (ag (aH (ab ax aG)) (ag (aH (ab ax aG)) al)) fun (l,_,_) ((v,_),(t,_),_) _=>vq l v t ) (aC (aB (ae (aw bV) (ae (aw aJ) ao)) (ag (aH (cK aG)) al) fun (l,_,_) ((c,_),_) _=>Aw l c ) po))
end Go.Proofs.Ytmmbibcfkdabeaa
namespace Go.Proofs.Ytmmbibcfkdabeaa
open Go.RowKit
theorem Fk (k:Int):(if k=12 then some (Span.mk 0 64) else if k=8 then some (Span.mk 2 3) else if k=6 then some (Span.mk 0 8) else none).getD (dflt (.nm .span))=⟨(jY k).1,(jY k).2⟩:=by
 by_cases h1:k=12
 ·subst h1; rfl
 ·by_cases h2:k=8
  ·subst h2; rfl
  ·by_cases h3:k=6
   ·subst h3; rfl
   ·simp [jY,nd,h1,h2,h3,dflt]; rfl
theorem EB (c:Command) (r0:Bool):du aL Aq [] Try.f94 [.agg (cellsOf (.nm .command) c)] [] [.c (.bool (.atom (r0)))]=((fun (q9:Int)=>(fun (q8:Int)=>(fun (q7:Prop)=>(fun (q6:Bool)=>(fun (q5:Bool)=>(fun (q4:Bool)=>(fun (q3:Prop)=>(fun (q2:Prop)=>(fun (q1:Prop)=>(fun (q0:den (Sh.nm NT.span))=>I64 q8->I64 c.client->I64 c.seq->I64 c.set->I64 c.id->I64 c.n->c.chunks.length*(8:Nat)<=(140737488355328:Nat)->c.text.b.length<=(140737488355328:Nat)->(q8=(3:Int)->((decide (q0.lo<=c.n) && decide (c.n<=q0.hi))=true->(dh c.chunks=true->(q7->q1)/\(¬q7->q2))/\(dh c.chunks=false->q2))/\((decide (q0.lo<=c.n) && decide (c.n<=q0.hi))=false->q2))/\(¬q8=(3:Int)->(q8=(11:Int)->((decide (q0.lo<=c.n) && decide (c.n<=q0.hi))=true->(q3->((↑c.text.b.length:Int)<=(16:Int)->q1)/\((16:Int)<(↑c.text.b.length:Int)->q2))/\(¬q3->q2))/\((decide (q0.lo<=c.n) && decide (c.n<=q0.hi))=false->q2))/\(¬q8=(11:Int)->((decide (q0.lo<=c.n) && decide (c.n<=q0.hi))=true->(q3->(q7->q1)/\(¬q7->q2))/\(¬q3->q2))/\((decide (q0.lo<=c.n) && decide (c.n<=q0.hi))=false->q2)))) (((fun (j:Int)=>if j=(12:Int) then some (Span.mk (0:Int) (64:Int)) else (fun (j:Int)=>if j=q9 then some (Span.mk (2:Int) (3:Int)) else (fun (j:Int)=>if j=(6:Int) then some (Span.mk (0:Int) q9) else (fun (_:Int)=>none) j) j) j) q8).getD (dflt (Sh.nm NT.span)))) ((q6=true->(q5=true->(q4=true->fF c.id (1048576:Int) ([(5:Int),(7:Int),(9:Int),(10:Int),(11:Int)].contains q8)=r0)/\(q4=false->q2))/\(q5=false->q2))/\(q6=false->q2))) (false=r0)) ((↑c.chunks.length:Int)=(0:Int))) (fF c.set q9 ([(2:Int),(3:Int),(4:Int)].contains q8))) (fF c.seq (1048576:Int) ![(1:Int),q9].contains q8)) (fF c.client q9 ![q9].contains q8)) (c.text=Str.mk [])) c.kind) (8:Int)):=by kernel_rfl
theorem Dl (c:Command):Sat Try.prog (av aL) 94 [.agg (cellsOf (.nm .command) c)] [] ⟨[],[.c (.bool (.atom ((dM c))))],none,false⟩:=by
 refine aY pG [] Try.func94 (by decide) (by kernel_rfl) ?_
 rw [EB]
 simp only [Fk]
 (repeat' (first | with_reducible refine And.intro ?_ ?_ | with_reducible refine and_imp.2 ?_ | intro))
 all_goals ((unfold dM Ft EX; simp_all) <;> (intros; omega))
theorem Ca (s:State) (v:Int) (r0:Bool):du aL Aq [] Try.f91 [.agg (cellsOf (.nm .state) s),.c (.int (v))] [] [.c (.bool (.atom (r0)))]=((fun (q1:Nat)=>(fun (q0:Int)=>I64 s.version->I64 s.next->I64 s.keep->I64 s.quota->s.sess.length*(32:Nat)<=(140737488355328:Nat)->s.opens.length*(16:Nat)<=(140737488355328:Nat)->q1*(64:Nat)<=(140737488355328:Nat)->I64 v->((↑q1:Int)<=(16:Int)->I64 q0/\q0<=(1048576:Int))/\((16:Int)<(↑q1:Int)\/ai Snap.id q0 (0:Int) s.snaps=false->false=r0)/\((↑q1:Int)<=(16:Int)/\ai Snap.id q0 (0:Int) s.snaps=true->(v<(3:Int)->s.snaps.all (bk v (0:Int))=r0)/\((3:Int)<=v->s.snaps.all (bk v (16:Int))=r0))) (s.next - (1:Int))) s.snaps.length):=by kernel_rfl
theorem BK (s:State) (v:Int) (h0:1<=s.next/\s.next<=1048576):Sat Try.prog (av aL) 91 [.agg (cellsOf (.nm .state) s),.c (.int (v))] [] ⟨[1<=s.next/\s.next<=1048576],[.c (.bool (.atom ((dj s v))))],none,false⟩:=by
 refine aY pG [] Try.func91 (by decide) (by kernel_rfl) ?_
 rw [Ca]
 (repeat' (first | with_reducible refine And.intro ?_ ?_ | with_reducible refine and_imp.2 ?_ | intro))
 all_goals (first | (first | with_reducible rfl | with_reducible assumption | omega | (refine aq ?_ ?_ <;> omega)) | ((simp only [dj,dC]; simp_all) <;> (intros; omega)) | (simp only [dj,dC]; grind))
def CN:cY:=(bX 91 (bR (ak (kT (.nm .state)) (ak (kC cI) aU)) aR fun (s,v,_) (_)=>⟨[1<=s.next/\s.next<=1048576],[.c (.bool (.atom ((dj s v))))],none,false⟩) (bX 94 (bR (ak (kT (.nm .command)) aU) aR fun (c,_) (_)=>⟨[],[.c (.bool (.atom ((dM c))))],none,false⟩) Aq))
theorem tn:bf Try.prog (av aL) CN:=(aC (aB (ae bP (ae (aw ax) ao)) al fun (s,v,_) (_) hp=>BK s v (eO hp)) (aC (aB (ae bP ao) al fun (c,_) (_) _=>Dl c ) pG))
end Go.Proofs.Ytmmbibcfkdabeaa
namespace Go.Proofs.Ytmmbibcfkdabeaa
open Go.RowKit
def cD (s:State) (at_:Nat) (k:Nat):Int:=(((s.snaps.drop (at_+1)).take k).filter fun x=>decide (x.set=(s.snaps.getD at_ (dflt (.nm .snap))).set)).length
def iK (s:State) (at_:Int):Bool:=if at_<0\/(s.snaps.length:Int)<=at_ then false else decide (cD s at_.toNat s.snaps.length<s.keep)
def nch (l:List Snap):Nat:=(l.flatMap Snap.chunks).length
def py (c:Int) (l:List Snap):Nat:=(l.flatMap Snap.chunks).count c
def aX (id:Int) (l:List Snap):List Snap:=l.filter fun x=>!decide (x.id=id)
theorem gd {α:Type} {l:List α} {k:Nat} {d:α} (h:(k:Int)<l.length):l[k]? = some (l.getD k d):=by
 have hk:k<l.length:=by omega
 rw [List.getD_eq_getElem?_getD,List.getElem?_eq_getElem hk]; rfl
theorem su {s:State} {a:Nat}:0=cD s a 0:=by simp [cD]
theorem Bq {s:State} {a k:Nat}:cD s a k<=(k:Int):=by
 have h1:=List.length_filter_le (fun x:Snap=>decide (x.set=(s.snaps.getD a (dflt (.nm .snap))).set)) ((s.snaps.drop (a+1)).take k)
 have h2:((s.snaps.drop (a+1)).take k).length<=k:=by rw [List.length_take]; omega
 unfold cD; omega
theorem BB {s:State} {a k:Nat}:0<=cD s a k:=by unfold cD; omega
theorem sX {s:State} {a k:Nat} (h:a+1+k<=s.snaps.length) (h2:s.snaps.length*64<=140737488355328):I64 (cD s a k+1):=by
 have h1:=Bq (s:=s) (a:=a) (k:=k)
 have h0:=BB (s:=s) (a:=a) (k:=k)
 constructor <;> omega
theorem sg {s:State} {a k:Nat} {x:Snap} (hx:(s.snaps.drop (a+1))[k]? = some x) (h:x.set=(s.snaps.getD a (dflt (.nm .snap))).set):cD s a k+1=cD s a (k+1):=by
 unfold cD
 rw [aF hx,List.filter_append,List.length_append]
 simp [h]
theorem sD {s:State} {a k:Nat} {x:Snap} (hx:(s.snaps.drop (a+1))[k]? = some x) (h:¬ x.set=(s.snaps.getD a (dflt (.nm .snap))).set):cD s a k=cD s a (k+1):=by
 unfold cD
 rw [aF hx,List.filter_append,List.length_append]
 rw [show List.filter (fun x:Snap=>decide (x.set=(s.snaps.getD a (dflt (.nm .snap))).set)) [x]=[] by simp only [List.filter_cons,h,decide_false,List.filter_nil]; rfl]
 simp
theorem lE {s:State} {a:Int} {k:Nat} (h0:0<=a) (ha:a<s.snaps.length) (h:(s.snaps.length:Int)<=a+1+k):decide (cD s a.toNat k<s.keep)=iK s a:=by
 unfold iK
 rw [if_neg (by omega)]
 have e:∀ m:Nat,(s.snaps.length:Int)<=a+1+m->cD s a.toNat m=cD s a.toNat s.snaps.length:=fun m hm=>by
  unfold cD
  rw [List.take_of_length_le (by rw [List.length_drop]; omega),List.take_of_length_le (by rw [List.length_drop]; omega)]
 rw [e k h]
theorem k_ {s:State} {a:Int} (h:a<0\/(s.snaps.length:Int)<=a):false=iK s a:=by unfold iK; rw [if_pos h]
theorem yT {id:Int} {l:List Snap} {k:Nat} {x y:Snap} (h:¬ x.id=id) (hx:l[k]? = some x) (hy:l[k]? = some y):aX id (l.take k)++[y]=aX id (l.take (k+1)):=by
 rw [hx] at hy; cases hy
 unfold aX; rw [aF hx,List.filter_append]; simp [h]
theorem zA {id:Int} {l:List Snap} {k:Nat} {x:Snap} (hx:l[k]? = some x) (h:x.id=id):aX id (l.take k)=aX id (l.take (k+1)):=by
 unfold aX; rw [aF hx,List.filter_append]; simp [h]
theorem sx {id:Int} {l:List Snap} {k:Nat} (h:(l.length:Int)<=k):aX id (l.take k)=aX id l:=by rw [List.take_of_length_le (by omega)]
theorem sj {id:Int} {l:List Snap} {k:Nat} {x:Snap} (h:(k:Int)<l.length) (hl:l.length*64<=140737488355328):((aX id (l.take k)).length+[x].length)*64<=140737488355328:=by
 have h1:=List.length_filter_le (fun x:Snap=>!decide (x.id=id)) (l.take k)
 rw [List.length_take] at h1
 unfold aX
 simp only [List.length_cons,List.length_nil]
 omega
def Cn (st:State) (at_:Int):List (Nat × LI):=[(5,{ σ:=Nat,F:=fun k=>([(1,one (.int (at_))),(2,one (.ptr 0 0)),(5,one (.int (cD st at_.toNat k))),(21,one (.fz (.nm .snap) (st.snaps.drop (at_+1).toNat))),(22,one (.int (st.snaps.drop (at_+1).toNat).length)),(23,one (.int k))],[.box 26 (cellsOf (.nm .state) ((st)))]),J:=fun k=>at_.toNat+1+k<=st.snaps.length/\0<=at_,μ:=fun k=>st.snaps.length - k })]
theorem Dt (st:State) (at_:Int) (r0:Bool):du aL CN (Cn st at_) Try.f80 [.agg (cellsOf (.nm .state) st),.c (.int (at_))] [] [.c (.bool (.atom (r0)))]=((fun (q8:Int)=>(fun (q7:Nat)=>(fun (q6:den (Sh.nm NT.snap))=>(fun (q5:Int)=>(fun (q4:Prop)=>(fun (q3:Nat)=>(fun (q2:List Snap)=>(fun (q1:Nat)=>(fun (q0:Prop)=>I64 st.version->I64 st.next->I64 st.keep->I64 st.quota->st.sess.length*(32:Nat)<=q7->st.opens.length*(16:Nat)<=q7->q2.length*(64:Nat)<=q7->I64 at_->(at_<q8\/(↑q2.length:Int)<=at_->false=r0)/\(q4/\at_<(↑q2.length:Int)->I64 (at_+q5)/\q8<=at_+q5/\at_+q5<=(↑q2.length:Int)/\∃ (s0:Nat),(fun (q13:Nat)=>(fun (q12:Nat)=>(fun (q11:den (Sh.nm NT.snap))=>(fun (q10:List (den (Sh.nm NT.snap)))=>(fun (q9:Int)=>(at_=at_/\q8=cD st q3 s0/\q10=q10/\(↑q10.length:Int)=q9/\q8=(↑s0:Int)/\q0)/\(q13+s0<=q12/\q4)/\∀ (s:Nat),(fun (q15:Int)=>(fun (q14:Int)=>q13+s<=q12/\q4->((↑s:Int)<q9->q8<=(↑s:Int)/\(↑s:Int)<(↑q10.length:Int)/\∀ (x:Snap),q10[s]? = some x->I64 x.id->I64 x.set->x.chunks.length*(8:Nat)<=q7->x.tag.b.length<=q7->q4/\at_<(↑q2.length:Int)/\(I64 q11.id->I64 q11.set->q11.chunks.length*(8:Nat)<=q7->q11.tag.b.length<=q7->(x.set=q11.set->I64 (q15+q5)/\I64 q14/\∃ (s':Nat),(at_=at_/\q15+q5=cD st q3 s' /\ q10=q10/\q9=q9/\q14=(↑s':Int)/\q0)/\(q13+s' <= q12/\q4)/\q12 - s' < q12 - s)/\(¬x.set=q11.set->I64 q14/\∃ (s':Nat),(at_=at_/\q15=cD st q3 s' /\ q10=q10/\q9=q9/\q14=(↑s':Int)/\q0)/\(q13+s' <= q12/\q4)/\q12 - s' < q12 - s)))/\(q9<=(↑s:Int)->decide (q15<st.keep)=r0)) ((↑s:Int)+q5)) (cD st q3 s)) (↑(List.drop q1 q2).length:Int)) (List.drop q1 q2)) (q2.getD q3 q6)) q2.length) (q3+(1:Nat)))) (st.version=st.version/\st.next=st.next/\st.keep=st.keep/\st.quota=st.quota/\st.sess=st.sess/\st.opens=st.opens/\q2=q2)) (at_+q5).toNat) st.snaps) at_.toNat) (q8<=at_)) (1:Int)) (dflt (Sh.nm NT.snap))) (140737488355328:Nat)) (0:Int)):=by kernel_rfl
theorem Ep (st:State) (at_:Int):Sat Try.prog (av aL) 80 [.agg (cellsOf (.nm .state) st),.c (.int (at_))] [] ⟨[],[.c (.bool (.atom ((iK st at_))))],none,false⟩:=by
 refine aY tn (Cn st at_) Try.func80 (by decide) (by kernel_rfl) ?_
 rw [Dt]
 (repeat' (first | with_reducible refine And.intro ?_ ?_ | with_reducible refine and_imp.2 ?_ | intro))
 all_goals try (first | (first | with_reducible rfl | with_reducible assumption | omega | (refine aq ?_ ?_ <;> omega)) | exact su | exact (k_ (by assumption)) | exact (sX (by omega) (by omega)) | exact (lE (by omega) (by omega) (by rw [List.length_drop] at *; omega)) | exact (sg (by rw [show (at_+1).toNat=at_.toNat+1 by omega] at *; assumption) (by with_reducible assumption)) | exact (by have:=‹_<((List.length (List.drop _ _):Nat):Int)›; rw [List.length_drop] at this; omega) | exact (sD (by rw [show (at_+1).toNat=at_.toNat+1 by omega] at *; assumption) (by with_reducible assumption)))
 all_goals try (refine ⟨0,?_⟩; (repeat' (first | with_reducible refine And.intro ?_ ?_ | with_reducible refine and_imp.2 ?_ | intro)))
 all_goals try (first | (first | with_reducible rfl | with_reducible assumption | omega | (refine aq ?_ ?_ <;> omega)) | exact su | exact (k_ (by assumption)) | exact (sX (by omega) (by omega)) | exact (lE (by omega) (by omega) (by rw [List.length_drop] at *; omega)) | exact (sg (by rw [show (at_+1).toNat=at_.toNat+1 by omega] at *; assumption) (by with_reducible assumption)) | exact (by have:=‹_<((List.length (List.drop _ _):Nat):Int)›; rw [List.length_drop] at this; omega) | exact (sD (by rw [show (at_+1).toNat=at_.toNat+1 by omega] at *; assumption) (by with_reducible assumption)))
 all_goals try (refine ⟨‹Nat› + 1,?_⟩; (repeat' (first | with_reducible refine And.intro ?_ ?_ | with_reducible refine and_imp.2 ?_ | intro)))
 all_goals (first | (first | with_reducible rfl | with_reducible assumption | omega | (refine aq ?_ ?_ <;> omega)) | exact su | exact (k_ (by assumption)) | exact (sX (by omega) (by omega)) | exact (lE (by omega) (by omega) (by rw [List.length_drop] at *; omega)) | exact (sg (by rw [show (at_+1).toNat=at_.toNat+1 by omega] at *; assumption) (by with_reducible assumption)) | exact (by have:=‹_<((List.length (List.drop _ _):Nat):Int)›; rw [List.length_drop] at this; omega) | exact (sD (by rw [show (at_+1).toNat=at_.toNat+1 by omega] at *; assumption) (by with_reducible assumption)))
def vd:cY:=(bX 80 (bR (ak (kT (.nm .state)) (ak (kC cI) aU)) aR fun (st,at_,_) (_)=>⟨[],[.c (.bool (.atom ((iK st at_))))],none,false⟩) CN)
theorem iT:bf Try.prog (av aL) vd:=(aC (aB (ae bP (ae (aw ax) ao)) al fun (st,at_,_) (_) _=>Ep st at_ ) tn)
end Go.Proofs.Ytmmbibcfkdabeaa
namespace Go.Proofs.Ytmmbibcfkdabeaa
open Go.RowKit
theorem tc {α:Type} {l:List α} {k:Nat} {d:α} (h:(k:Int)<l.length):l.set k (l.getD k d)=l:=by
 have hk:k<l.length:=by omega
 rw [List.getD_eq_getElem?_getD,List.getElem?_eq_getElem hk]; exact List.set_getElem_self hk
def om (l:List Snap) (k:Nat):Nat:=((List.range k).filter fun (i:Nat)=>decide (0<py ((i:Int)+1) l)).length
def distF (l:List Snap):Nat:=om l 64
theorem BQ {l:List Snap} {k:Nat}:om l k<=k:=by
 unfold om; refine Nat.le_trans (List.length_filter_le _ _) ?_; simp
def wO (st:State):List (Nat × LI):=[(5,{ σ:=Nat,F:=fun k=>([(1,one (.ptr 0 0)),(2,one (.ptr 1 0)),(18,one (.int st.snaps.length)),(19,one (.int k))],[.box 26 ([.int ((st.version)),.int ((st.next)),.int ((st.keep)),.int ((st.quota)),.own 2,.own 3,.own 4]),.box 26 ([.int ((0)),.int ((0)),.int ((0)),.int ((0)),.em true,.em true,.em true]),.row 42 (.nm .sess) ((st.sess)),.row 51 (.nm .opn) ((st.opens)),.row 46 (.nm .snap) ((st.snaps))]),J:=fun k=>k<=st.snaps.length,μ:=fun k=>st.snaps.length - k })]
theorem Db (st:State) (v:Int) (r0:Int):du aL vd [] Try.f64 [.agg (cellsOf (.nm .state) st),.c (.int (v))] [] [.c (.int (r0))]=((fun (q12:Int)=>(fun (q11:Bool)=>(fun (q10:Bool)=>(fun (q9:Int)=>(fun (q8:Int)=>(fun (q7:Int)=>(fun (q6:Int)=>(fun (q5:Int)=>(fun (q4:Int)=>(fun (q3:Prop)=>(fun (q2:Prop)=>(fun (q1:Prop)=>(fun (q0:Prop)=>I64 st.version->I64 q12->I64 st.keep->I64 q8->st.sess.length*(32:Nat)<=(140737488355328:Nat)->st.opens.length*(16:Nat)<=(140737488355328:Nat)->st.snaps.length*(64:Nat)<=(140737488355328:Nat)->I64 v->(cg v q6 q9=false->q6=r0)/\(cg v q6 q9=true->(v<q9->q5<=q7/\q5<=q7/\(((q0/\cg q8 q4 q4=true)/\q1)/\q2->q6<=q12/\q12<=q7)/\((((q3\/cg q8 q4 q4=false)\/ai Sess.client q5 q4 st.sess=false\/q11=false)\/ai Opn.set q5 q4 st.opens=false\/q10=false)\/dj st v=false->(6:Int)=r0)/\((((q0/\cg q8 q4 q4=true)/\q1)/\q2)/\dj st v=true->q4=r0))/\(q9<=v->q5<=q7/\q5<=q7/\(((q0/\cg q8 q4 (64:Int)=true)/\q1)/\q2->q6<=q12/\q12<=q7)/\((((q3\/cg q8 q4 (64:Int)=false)\/ai Sess.client q5 q4 st.sess=false\/q11=false)\/ai Opn.set q5 q4 st.opens=false\/q10=false)\/dj st v=false->(6:Int)=r0)/\((((q0/\cg q8 q4 (64:Int)=true)/\q1)/\q2)/\dj st v=true->q4=r0)))) ((cg st.version q6 q9=true/\cg q12 q6 q7=true)/\cg st.keep q4 q5=true)) (ai Sess.client q5 q4 st.sess=true/\q11=true)) (ai Opn.set q5 q4 st.opens=true/\q10=true)) ((cg st.version q6 q9=false\/cg q12 q6 q7=false)\/cg st.keep q4 q5=false)) (0:Int)) (8:Int)) (1:Int)) (1048576:Int)) st.quota) (3:Int)) (st.opens.all bO)) (st.sess.all bJ)) st.next):=by kernel_rfl
theorem DR (st:State) (v:Int):Sat Try.prog (av aL) 64 [.agg (cellsOf (.nm .state) st),.c (.int (v))] [] ⟨[],[.c (.int ((mayF st v)))],none,false⟩:=by
 refine aY iT [] Try.func64 (by decide) (by kernel_rfl) ?_
 rw [Db]
 (repeat' (first | with_reducible refine And.intro ?_ ?_ | with_reducible refine and_imp.2 ?_ | intro))
 all_goals (first | (first | with_reducible rfl | with_reducible assumption | omega | (refine aq ?_ ?_ <;> omega)) | exact (pn (a:=1) (b:=1048576) (by with_reducible assumption)).1 | exact (pn (a:=1) (b:=1048576) (by with_reducible assumption)).2 | (simp only [mayF,cO,mE,jw]; grind))
theorem Cb (c:Command) (v:Int) (r0:Int):du aL vd [] Try.f65 [.agg (cellsOf (.nm .command) c),.c (.int (v))] [] [.c (.int (r0))]=((fun (q0:Int)=>I64 c.kind->I64 c.client->I64 c.seq->I64 c.set->I64 c.id->I64 c.n->c.chunks.length*(8:Nat)<=(140737488355328:Nat)->c.text.b.length<=(140737488355328:Nat)->I64 v->I64 q0->(jD v=false\/q0=(0:Int)->(1:Int)=r0)/\(jD v=true/\¬q0=(0:Int)->(v<q0->(10:Int)=r0)/\(q0<=v->(dM c=false->(1:Int)=r0)/\(dM c=true->(0:Int)=r0)))) (eU c.kind)):=by kernel_rfl
theorem BH (c:Command) (v:Int):Sat Try.prog (av aL) 65 [.agg (cellsOf (.nm .command) c),.c (.int (v))] [] ⟨[],[.c (.int ((bE c v)))],none,false⟩:=by
 refine aY iT [] Try.func65 (by decide) (by kernel_rfl) ?_
 rw [Cb]
 rw [show jD v=cg v 1 3 from rfl]
 (repeat' (first | with_reducible refine And.intro ?_ ?_ | with_reducible refine and_imp.2 ?_ | intro))
 all_goals (first | (first | with_reducible rfl | with_reducible assumption | omega | (refine aq ?_ ?_ <;> omega)) | (simp only [bE]; grind))
theorem Cd (st:State) (r0:Int) (r1:Int) (r2:Int) (r3:Int) (r4:List Sess) (r5:List Opn) (r6:List Snap):uy aL vd (wO st) Try.f27 [.agg (cellsOf (.nm .state) st)] [] [.agg ([.int (r0),.int (r1),.int (r2),.int (r3),.own 0,.own 1,.own 2])] [.row 42 (.nm .sess) (r4),.row 51 (.nm .opn) (r5),.row 46 (.nm .snap) (r6)]=((fun (q4:Int)=>(fun (q3:Nat)=>(fun (q2:den (Sh.nm NT.snap))=>(fun (q1:Prop)=>(fun (q0:List Snap)=>I64 q4->I64 st.next->I64 st.keep->I64 st.quota->st.sess.length*(32:Nat)<=q3->st.opens.length*(16:Nat)<=q3->q0.length*(64:Nat)<=q3->∃ (s0:Nat),(fun (q5:Nat)=>((↑q0.length:Int)=(↑q5:Int)/\(0:Int)=(↑s0:Int)/\q4=q4/\st.next=st.next/\st.keep=st.keep/\st.quota=st.quota/\q1/\q1/\q1/\q1/\st.sess=st.sess/\st.opens=st.opens/\q0=q0)/\s0<=q5/\∀ (s:Nat),(fun (q7:den (Sh.nm NT.snap))=>(fun (q6:Prop)=>s<=q5->((↑s:Int)<(↑q5:Int)->(0:Int)<=(↑s:Int)/\(↑s:Int)<(↑q0.length:Int)/\(0:Int)<=(↑s:Int)/\(↑s:Int)<(↑q0.length:Int)/\(I64 q7.id->I64 q7.set->q6->q7.tag.b.length<=q3->q6->I64 q7.id->I64 q7.set->q6->q7.tag.b.length<=q3->I64 ((↑s:Int)+(1:Int))/\∃ (s':Nat),((↑q5:Int)=(↑q5:Int)/\(↑s:Int)+(1:Int)=(↑s':Int)/\q4=q4/\st.next=st.next/\st.keep=st.keep/\st.quota=st.quota/\q1/\q1/\q1/\q1/\st.sess=st.sess/\st.opens=st.opens/\q0.set s q7=q0)/\s' <= q5/\q5 - s' < q5 - s))/\((↑q5:Int)<=(↑s:Int)->q4=r0/\st.next=r1/\st.keep=r2/\st.quota=r3/\st.sess=r4/\st.opens=r5/\q0=r6)) (q7.chunks.length*(8:Nat)<=q3)) (q0.getD s q2)) q0.length) st.snaps) ((0:Int)=(0:Int))) (dflt (Sh.nm NT.snap))) (140737488355328:Nat)) st.version):=by kernel_rfl
theorem BN (st:State):Sat Try.prog (av aL) 27 [.agg (cellsOf (.nm .state) st)] [] ⟨[],[.agg ([.int ((st.version)),.int ((st.next)),.int ((st.keep)),.int ((st.quota)),.own 0,.own 1,.own 2])],some ([.row 42 (.nm .sess) ((st.sess)),.row 51 (.nm .opn) ((st.opens)),.row 46 (.nm .snap) ((st.snaps))]),true⟩:=by
 refine eQ iT (wO st) Try.func27 (by decide) (by kernel_rfl) ?_
 rw [Cd]
 (repeat' (first | with_reducible refine And.intro ?_ ?_ | with_reducible refine and_imp.2 ?_ | intro))
 all_goals try (first | (first | with_reducible rfl | with_reducible assumption | omega | (refine aq ?_ ?_ <;> omega)) | exact rfl | exact (tc (by omega)))
 all_goals try (refine ⟨0,?_⟩; (repeat' (first | with_reducible refine And.intro ?_ ?_ | with_reducible refine and_imp.2 ?_ | intro)))
 all_goals try (first | (first | with_reducible rfl | with_reducible assumption | omega | (refine aq ?_ ?_ <;> omega)) | exact rfl | exact (tc (by omega)))
 all_goals try (refine ⟨‹Nat› + 1,?_⟩; (repeat' (first | with_reducible refine And.intro ?_ ?_ | with_reducible refine and_imp.2 ?_ | intro)))
 all_goals (first | (first | with_reducible rfl | with_reducible assumption | omega | (refine aq ?_ ?_ <;> omega)) | exact rfl | exact (tc (by omega)))
theorem BL (x:Snap) (y:Snap) (r0:Bool):du aL vd [] Try.f70 [.agg (cellsOf (.nm .snap) x),.agg (cellsOf (.nm .snap) y)] [] [.c (.bool (.atom (r0)))]=(I64 x.id->I64 x.set->x.chunks.length*(8:Nat)<=(140737488355328:Nat)->x.tag.b.length<=(140737488355328:Nat)->I64 y.id->I64 y.set->y.chunks.length*(8:Nat)<=(140737488355328:Nat)->y.tag.b.length<=(140737488355328:Nat)->(decide (x.chunks=y.chunks) && decide (x.id=y.id) && decide (x.set=y.set) && x.held == y.held && decide (x.tag=y.tag))=r0):=by kernel_rfl
theorem Ae (x:Snap) (y:Snap):Sat Try.prog (av aL) 70 [.agg (cellsOf (.nm .snap) x),.agg (cellsOf (.nm .snap) y)] [] ⟨[],[.c (.bool (.atom ((decide (x=y)))))],none,false⟩:=by
 refine aY iT [] Try.func70 (by decide) (by kernel_rfl) ?_
 rw [BL]
 intros; cases x; cases y; simp only [Snap.mk.injEq]; grind
def nu:cY:=(bX 70 (bR (ak (kT (.nm .snap)) (ak (kT (.nm .snap)) aU)) aR fun (x,y,_) (_)=>⟨[],[.c (.bool (.atom ((decide (x=y)))))],none,false⟩) (bX 27 (bR (ak (kT (.nm .state)) aU) aR fun (st,_) (_)=>⟨[],[.agg ([.int ((st.version)),.int ((st.next)),.int ((st.keep)),.int ((st.quota)),.own 0,.own 1,.own 2])],some ([.row 42 (.nm .sess) ((st.sess)),.row 51 (.nm .opn) ((st.opens)),.row 46 (.nm .snap) ((st.snaps))]),true⟩) (bX 65 (bR (ak (kT (.nm .command)) (ak (kC cI) aU)) aR fun (c,v,_) (_)=>⟨[],[.c (.int ((bE c v)))],none,false⟩) (bX 64 (bR (ak (kT (.nm .state)) (ak (kC cI) aU)) aR fun (st,v,_) (_)=>⟨[],[.c (.int ((mayF st v)))],none,false⟩) vd))))
theorem gb:bf Try.prog (av aL) nu:=(aC (aB (ae bP (ae bP ao)) al fun (x,y,_) (_) _=>Ae x y ) (aC (aB (ae bP ao) al fun (st,_) (_) _=>BN st ) (aC (aB (ae bP (ae (aw ax) ao)) al fun (c,v,_) (_) _=>BH c v ) (aC (aB (ae bP (ae (aw ax) ao)) al fun (st,v,_) (_) _=>DR st v ) iT))))
end Go.Proofs.Ytmmbibcfkdabeaa
namespace Go.Proofs.Ytmmbibcfkdabeaa
open Go.RowKit
def df (s:State):State:={ s with sess:=s.sess.take 20,opens:=s.opens.take 20,snaps:=(s.snaps.take 20).map fun x=>{ x with chunks:=x.chunks.take 12,tag:=x.tag.cut 0 40 } }
def iC (l:List Snap) (id:Int) (k:Nat):List Int:=((List.range k).filter fun (i:Nat)=>decide (0<py ((i:Int)+1) l) && decide (py ((i:Int)+1) (aX id l)=0)).map fun (i:Nat)=>(i:Int)+1
def cz (xs:List Int) (l:List Int):List Int:=l.foldl (fun xs n=>if 1<=n/\n<=64 then xs.set n.toNat (xs.getD n.toNat 0+1) else xs) xs
theorem yz {a b:List Snap} {k:Nat} (h:a.take k=b.take k) (e:decide (a.getD k (dflt (.nm .snap))=b.getD k (dflt (.nm .snap)))=true) (hk:(k:Int)<a.length) (hb:(k:Int)<b.length):a.take (k+1)=b.take (k+1):=uN h (by omega) (by omega) (of_decide_eq_true e)
theorem xn {a b:List Snap} {k:Nat} (e:decide (a.getD k (dflt (.nm .snap))=b.getD k (dflt (.nm .snap)))=false) (_:(k:Int)<a.length) (_:(k:Int)<b.length):false=decide (a=b):=by
 symm; apply decide_eq_false; rintro rfl; simp at e
theorem Ef {l:List Snap} {id:Int} (h:nch l<=1048576):nch (aX id l)<=1048576:=by
 refine Nat.le_trans ?_ h
 unfold nch aX
 induction l with
 | nil=>exact Nat.le_refl _
 | cons x l ih=>
  have hl:(l.flatMap Snap.chunks).length<=1048576:=by unfold nch at h; rw [List.flatMap_cons,List.length_append] at h; omega
  have:=ih hl
  rw [List.filter_cons,List.flatMap_cons,List.length_append]
  split
  ·rw [List.flatMap_cons,List.length_append]; omega
  ·omega
def fx (l:List Snap) (id:Int):List Int:=iC l id 64
theorem uP {st:State} {k:Nat} {x:Snap} (hx:st.snaps[k]? = some x) (h:(k:Int)<20):(df st).snaps[k]? = some { x with chunks:=x.chunks.take 12,tag:=x.tag.cut 0 40 }:=by
 show (List.map _ (st.snaps.take 20))[k]? = _
 rw [List.getElem?_map,List.getElem?_take_of_lt (by omega),hx]; rfl
theorem DZ {st:State} {k:Nat} {x:Snap} (hx:st.snaps[k]? = some x) (h:(k:Int)<20) (_:12<(x.chunks.length:Int)) (_:40<(x.tag.b.length:Int)):(df st).snaps.take k++[Snap.mk x.id x.set (x.chunks.take 12) x.held ⟨x.tag.b.take 40⟩]=(df st).snaps.take (k+1):=by
 rw [aF (uP hx h)]; rfl
theorem C_ {st:State} {k:Nat} {x:Snap} (hx:st.snaps[k]? = some x) (h:(k:Int)<20) (_:12<(x.chunks.length:Int)) (h2:(x.tag.b.length:Int)<=40):(df st).snaps.take k++[Snap.mk x.id x.set (x.chunks.take 12) x.held x.tag]=(df st).snaps.take (k+1):=by
 rw [aF (uP hx h),show x.tag.cut 0 40=x.tag from (qM h2).symm]
theorem CQ {st:State} {k:Nat} {x:Snap} (hx:st.snaps[k]? = some x) (h:(k:Int)<20) (h1:(x.chunks.length:Int)<=12) (_:40<(x.tag.b.length:Int)):(df st).snaps.take k++[Snap.mk x.id x.set x.chunks x.held ⟨x.tag.b.take 40⟩]=(df st).snaps.take (k+1):=by
 rw [aF (uP hx h),show x.chunks.take 12=x.chunks from List.take_of_length_le (by omega)]; rfl
theorem EA {st:State} {k:Nat} {x:Snap} (hx:st.snaps[k]? = some x) (h:(k:Int)<20) (h1:(x.chunks.length:Int)<=12) (h2:(x.tag.b.length:Int)<=40):(df st).snaps.take k++[x]=(df st).snaps.take (k+1):=by
 rw [aF (uP hx h),show x.chunks.take 12=x.chunks from List.take_of_length_le (by omega),show x.tag.cut 0 40=x.tag from (qM h2).symm]
theorem ER {st:State}:(df st).snaps.length=min 20 st.snaps.length:=by
 show (List.map _ (st.snaps.take 20)).length=_
 rw [List.length_map,List.length_take]
theorem sW {st:State} {k:Nat} {y:Snap} (h:(k:Int)<20):(((df st).snaps.take k).length+[y].length)*64<=140737488355328:=by
 rw [List.length_take]; simp only [List.length_cons,List.length_nil]; omega
theorem yj {st:State} {k:Nat} (h:(k:Int)<20) (h2:(k:Int)<st.snaps.length):k+1<=(df st).snaps.length:=by rw [ER]; omega
theorem xI {st:State} {k:Nat} (h:(st.snaps.length:Int)<=k\/20<=(k:Int)):(df st).snaps.length<=k:=by rw [ER]; omega
def nI (xs l:List Int):Prop:=∀ i,0<=xs.getD i 0/\xs.getD i 0+l.length<=4611686018427387904
theorem qB {xs:List Int} {i j:Nat} {v:Int}:(xs.set j v).getD i 0=if j=i/\j<xs.length then v else xs.getD i 0:=by
 rw [List.getD_eq_getElem?_getD,List.getElem?_set,List.getD_eq_getElem?_getD]
 by_cases h:j=i
 ·subst h
  by_cases h2:j<xs.length
  ·simp [h2]
  ·simp [h2]
 ·simp [h]
theorem sd:∀ (l xs:List Int) (i:Nat),xs.getD i 0<=(cz xs l).getD i 0/\(cz xs l).getD i 0<=xs.getD i 0+l.length
 | [],xs,i=>by simp [cz]
 | n :: l,xs,i=>by
  have h:=sd l (if 1<=n/\n<=64 then xs.set n.toNat (xs.getD n.toNat 0+1) else xs) i
  have e:cz xs (n :: l)=cz (if 1<=n/\n<=64 then xs.set n.toNat (xs.getD n.toNat 0+1) else xs) l:=rfl
  rw [e]
  have h2:xs.getD i 0<=(if 1<=n/\n<=64 then xs.set n.toNat (xs.getD n.toNat 0+1) else xs).getD i 0/\(if 1<=n/\n<=64 then xs.set n.toNat (xs.getD n.toNat 0+1) else xs).getD i 0<=xs.getD i 0+1:=by
   split
   ·rw [qB]; split
    ·rename_i h3; rw [h3.1]; omega
    ·omega
   ·omega
  rw [List.length_cons]; omega
theorem pM {xs l:List Int} {k:Nat} {n:Int} (hx:l[k]? = some n):cz xs (l.take (k+1))=if 1<=n/\n<=64 then (cz xs (l.take k)).set n.toNat ((cz xs (l.take k)).getD n.toNat 0+1) else cz xs (l.take k):=by
 rw [aF hx,cz,List.foldl_append]; rfl
theorem yF {xs l:List Int} {k:Nat} {n:Int} (hx:l[k]? = some n) (h:1<=n/\n<=64):(cz xs (l.take k)).set n.toNat ((cz xs (l.take k)).getD n.toNat (dflt .int)+1)=cz xs (l.take (k+1)):=by rw [pM hx,if_pos h]; rfl
theorem wF {xs l:List Int} {k:Nat} {n:Int} (hx:l[k]? = some n) (h:¬ (1<=n/\n<=64)):cz xs (l.take k)=cz xs (l.take (k+1)):=by rw [pM hx,if_neg h]
theorem zR {xs l:List Int} {k:Nat} {n:Int} (h:nI xs l):I64 ((cz xs (l.take k)).getD n.toNat (dflt .int)+1):=by
 have h1:=sd (l.take k) xs n.toNat
 have h2:=h n.toNat
 rw [List.length_take] at h1
 show I64 ((cz xs (l.take k)).getD n.toNat 0+1)
 constructor <;> omega
theorem Ev {l:List Snap} {id:Int} {k:Nat} {n:Int} (h:k<=64):((iC l id k).length+[n].length)*8<=140737488355328:=by
 unfold iC
 have:=List.length_filter_le (fun (i:Nat)=>decide (0<py ((i:Int)+1) l) && decide (py ((i:Int)+1) (aX id l)=0)) (List.range k)
 rw [List.length_range] at this
 rw [List.length_map]; simp only [List.length_cons,List.length_nil]; omega
def nq (a:List Snap) (b:List Snap):List (Nat × LI):=[(4,{ σ:=Nat,F:=fun k=>([(0,one (.fz (.nm .snap) (a))),(1,one (.fz (.nm .snap) (b))),(5,one (.int k))],[]),J:=fun k=>k<=a.length/\a.length=b.length/\a.take k=b.take k,μ:=fun k=>a.length - k })]
def Cl (st:State):List (Nat × LI):=[(7,{ σ:=Nat,F:=fun k=>([(1,one (.ptr 0 0)),(2,one (.ptr 1 0)),(3,one (.own 2)),(4,one (.int k))],[.box 26 ([.int ((st.version)),.int ((st.next)),.int ((st.keep)),.int ((st.quota)),.fz (.nm .sess) ((st.sess.take 20)),.fz (.nm .opn) ((st.opens.take 20)),.fz (.nm .snap) ((st.snaps))]),.box 26 ([.int ((0)),.int ((0)),.int ((0)),.int ((0)),.em true,.em true,.em true]),.row 46 (.nm .snap) (((df st).snaps.take k))]),J:=fun k=>k<=(df st).snaps.length,μ:=fun k=>st.snaps.length - k })]
def Fz (l:List Int) (xs:List Int):List (Nat × LI):=[(1,{ σ:=Nat,F:=fun k=>([(0,one (.ptr 0 0)),(6,one (.fz .int (l))),(7,one (.int (l).length)),(8,one (.int k))],[.arr 94 .int 65 ((cz xs (l.take k)))]),J:=fun k=>k<=l.length,μ:=fun k=>(l).length - k })]
theorem CR (st:State) (c:Command) (r0:Int):du aL nu [] Try.f28 [.agg (cellsOf (.nm .state) st),.agg (cellsOf (.nm .command) c)] [] [.c (.int (r0))]=((fun (q0:Int)=>I64 q0->I64 st.next->I64 st.keep->I64 st.quota->st.sess.length*(32:Nat)<=(140737488355328:Nat)->st.opens.length*(16:Nat)<=(140737488355328:Nat)->st.snaps.length*(64:Nat)<=(140737488355328:Nat)->I64 c.kind->I64 c.client->I64 c.seq->I64 c.set->I64 c.id->I64 c.n->c.chunks.length*(8:Nat)<=(140737488355328:Nat)->c.text.b.length<=(140737488355328:Nat)->I64 (mayF st q0)->(¬mayF st q0=(0:Int)->(1:Int)=r0)/\(mayF st q0=(0:Int)->I64 (bE c q0)->bE c q0=r0)) st.version):=by kernel_rfl
theorem De (st:State) (c:Command):Sat Try.prog (av aL) 28 [.agg (cellsOf (.nm .state) st),.agg (cellsOf (.nm .command) c)] [] ⟨[],[.c (.int ((if mayF st st.version=0 then bE c st.version else 1)))],none,false⟩:=by
 refine aY gb [] Try.func28 (by decide) (by kernel_rfl) ?_
 rw [CR]
 grind
theorem sr (a:List Snap) (b:List Snap) (r0:Bool):du aL nu (nq a b) Try.f35 [.c (.fz (.nm .snap) (a)),.c (.fz (.nm .snap) (b))] [] [.c (.bool (.atom (r0)))]=((fun (q3:Nat)=>(fun (q2:Nat)=>(fun (q1:Int)=>(fun (q0:den (Sh.nm NT.snap))=>a.length*(64:Nat)<=q3->b.length*(64:Nat)<=q3->(¬q1=(↑b.length:Int)->false=r0)/\(q1=(↑b.length:Int)->∃ (s0:Nat),(a=a/\b=b/\(0:Int)=(↑s0:Int))/\(s0<=q2/\q2=b.length/\List.take s0 a=List.take s0 b)/\∀ (s:Nat),(fun (q5:den (Sh.nm NT.snap))=>(fun (q4:den (Sh.nm NT.snap))=>s<=q2/\q2=b.length/\List.take s a=List.take s b->((↑s:Int)<q1->(0:Int)<=(↑s:Int)/\(↑s:Int)<q1/\(0:Int)<=(↑s:Int)/\(↑s:Int)<(↑b.length:Int)/\(I64 q4.id->I64 q4.set->q4.chunks.length*(8:Nat)<=q3->q4.tag.b.length<=q3->I64 q5.id->I64 q5.set->q5.chunks.length*(8:Nat)<=q3->q5.tag.b.length<=q3->(decide (q4=q5)=false->false=r0)/\(decide (q4=q5)=true->I64 ((↑s:Int)+(1:Int))/\∃ (s':Nat),(a=a/\b=b/\(↑s:Int)+(1:Int)=(↑s':Int))/\(s' <= q2/\q2=b.length/\List.take s' a=List.take s' b)/\q2 - s' < q2 - s)))/\(q1<=(↑s:Int)->true=r0)) (a.getD s q0)) (b.getD s q0))) (dflt (Sh.nm NT.snap))) (↑a.length:Int)) a.length) (140737488355328:Nat)):=by kernel_rfl
theorem sE (a:List Snap) (b:List Snap):Sat Try.prog (av aL) 35 [.c (.fz (.nm .snap) (a)),.c (.fz (.nm .snap) (b))] [] ⟨[],[.c (.bool (.atom ((decide (a=b)))))],none,false⟩:=by
 refine aY gb (nq a b) Try.func35 (by decide) (by kernel_rfl) ?_
 rw [sr]
 (repeat' (first | with_reducible refine And.intro ?_ ?_ | with_reducible refine and_imp.2 ?_ | intro))
 all_goals try (first | (first | with_reducible rfl | with_reducible assumption | omega | (refine aq ?_ ?_ <;> omega)) | exact rfl | exact (sM (by with_reducible assumption)) | exact (yz (by with_reducible assumption) (by with_reducible assumption) (by with_reducible assumption) (by omega)) | exact (xn (by with_reducible assumption) (by omega) (by omega)) | exact (mA (by omega) (by with_reducible assumption) (by omega)))
 all_goals try (refine ⟨0,?_⟩; (repeat' (first | with_reducible refine And.intro ?_ ?_ | with_reducible refine and_imp.2 ?_ | intro)))
 all_goals try (first | (first | with_reducible rfl | with_reducible assumption | omega | (refine aq ?_ ?_ <;> omega)) | exact rfl | exact (sM (by with_reducible assumption)) | exact (yz (by with_reducible assumption) (by with_reducible assumption) (by with_reducible assumption) (by omega)) | exact (xn (by with_reducible assumption) (by omega) (by omega)) | exact (mA (by omega) (by with_reducible assumption) (by omega)))
 all_goals try (refine ⟨‹Nat› + 1,?_⟩; (repeat' (first | with_reducible refine And.intro ?_ ?_ | with_reducible refine and_imp.2 ?_ | intro)))
 all_goals (first | (first | with_reducible rfl | with_reducible assumption | omega | (refine aq ?_ ?_ <;> omega)) | exact rfl | exact (sM (by with_reducible assumption)) | exact (yz (by with_reducible assumption) (by with_reducible assumption) (by with_reducible assumption) (by omega)) | exact (xn (by with_reducible assumption) (by omega) (by omega)) | exact (mA (by omega) (by with_reducible assumption) (by omega)))
theorem CO (st:State) (r0:State):du aL nu (Cl st) Try.f11 [.agg (cellsOf (.nm .state) st)] [] [.agg (cellsOf (.nm .state) r0)]=((fun (q23:Nat)=>(fun (q22:Prop)=>(fun (q21:Prop)=>(fun (q20:Prop)=>(fun (q19:Prop)=>(fun (q18:Int)=>(fun (q17:Nat)=>(fun (q16:Nat)=>(fun (q15:Int)=>(fun (q14:Nat)=>(fun (q13:Int)=>(fun (q12:Int)=>(fun (q11:Nat)=>(fun (q10:Int)=>(fun (q9:Int)=>(fun (q8:Prop)=>(fun (q7:Prop)=>(fun (q6:Prop)=>(fun (q5:Prop)=>(fun (q4:List Snap)=>(fun (q3:List (den (Sh.nm NT.sess)))=>(fun (q2:List (den (Sh.nm NT.opn)))=>(fun (q1:List Snap)=>(fun (q0:Prop)=>I64 st.version->I64 st.next->I64 st.keep->I64 st.quota->q23*(32:Nat)<=q11->st.opens.length*(16:Nat)<=q11->q4.length*q14<=q11->(q13<(↑q23:Int)->q12<=q13/\q13<=(↑q23:Int)/\(q13<q18->q12<=q13/\q13<=q18/\∃ (s0:Nat),(fun (q25:Nat)=>(fun (q24:Nat)=>(q12=(↑s0:Int)/\q5/\q8/\q7/\q6/\q3=q3/\q2=q2/\q4=q4/\q0/\q0/\q0/\q0/\List.take s0 q1=[])/\s0<=q25/\∀ (s:Nat),(fun (q27:List (den (Sh.nm NT.snap)))=>(fun (q26:Int)=>s<=q25->((↑s:Int)<(↑q4.length:Int)/\(↑s:Int)<q13->q12<=(↑s:Int)/\(↑s:Int)<(↑q4.length:Int)/\∀ (x:Snap),(fun (q32:Nat)=>(fun (q31:Snap)=>(fun (q30:Snap)=>(fun (q29:Snap)=>(fun (q28:Int)=>q4[s]? = some x->I64 x.id->I64 x.set->q32*(8:Nat)<=q11->x.tag.b.length<=q11->(q15<(↑q32:Int)->q12<=q15/\q15<=(↑q32:Int)/\(q10<q28->q12<=q10/\q10<=q28/\(q27.length+[q29].length)*q14<=q11/\I64 q26/\∃ (s':Nat),(q26=(↑s':Int)/\q5/\q8/\q7/\q6/\q3=q3/\q2=q2/\q4=q4/\q0/\q0/\q0/\q0/\q27++[q29]=List.take s' q1)/\s' <= q25/\q24 - s' < q24 - s)/\(q28<=q10->(q27.length+[q31].length)*q14<=q11/\I64 q26/\∃ (s':Nat),(q26=(↑s':Int)/\q5/\q8/\q7/\q6/\q3=q3/\q2=q2/\q4=q4/\q0/\q0/\q0/\q0/\q27++[q31]=List.take s' q1)/\s' <= q25/\q24 - s' < q24 - s))/\((↑q32:Int)<=q15->(q10<q28->q12<=q10/\q10<=q28/\(q27.length+[q30].length)*q14<=q11/\I64 q26/\∃ (s':Nat),(q26=(↑s':Int)/\q5/\q8/\q7/\q6/\q3=q3/\q2=q2/\q4=q4/\q0/\q0/\q0/\q0/\q27++[q30]=List.take s' q1)/\s' <= q25/\q24 - s' < q24 - s)/\(q28<=q10->(q27.length+[x].length)*q14<=q11/\I64 q26/\∃ (s':Nat),(q26=(↑s':Int)/\q5/\q8/\q7/\q6/\q3=q3/\q2=q2/\q4=q4/\q0/\q0/\q0/\q0/\q27++[x]=List.take s' q1)/\s' <= q25/\q24 - s' < q24 - s))) (↑x.tag.b.length:Int)) (Snap.mk x.id x.set (List.take q16 x.chunks) x.held (Str.mk (List.take q17 x.tag.b)))) (Snap.mk x.id x.set x.chunks x.held (Str.mk (List.take q17 x.tag.b)))) (Snap.mk x.id x.set (List.take q16 x.chunks) x.held x.tag)) x.chunks.length)/\((↑q4.length:Int)<=(↑s:Int)\/q13<=(↑s:Int)->q19/\q22/\q21/\q20/\q3=r0.sess/\q2=r0.opens/\q27=r0.snaps)) ((↑s:Int)+q9)) (List.take s q1)) q4.length) q1.length)/\(q18<=q13->∃ (s0:Nat),(fun (q34:Nat)=>(fun (q33:Nat)=>(q12=(↑s0:Int)/\q5/\q8/\q7/\q6/\q3=q3/\st.opens=q2/\q4=q4/\q0/\q0/\q0/\q0/\List.take s0 q1=[])/\s0<=q34/\∀ (s:Nat),(fun (q36:List (den (Sh.nm NT.snap)))=>(fun (q35:Int)=>s<=q34->((↑s:Int)<(↑q4.length:Int)/\(↑s:Int)<q13->q12<=(↑s:Int)/\(↑s:Int)<(↑q4.length:Int)/\∀ (x:Snap),(fun (q41:Nat)=>(fun (q40:Snap)=>(fun (q39:Snap)=>(fun (q38:Snap)=>(fun (q37:Int)=>q4[s]? = some x->I64 x.id->I64 x.set->q41*(8:Nat)<=q11->x.tag.b.length<=q11->(q15<(↑q41:Int)->q12<=q15/\q15<=(↑q41:Int)/\(q10<q37->q12<=q10/\q10<=q37/\(q36.length+[q38].length)*q14<=q11/\I64 q35/\∃ (s':Nat),(q35=(↑s':Int)/\q5/\q8/\q7/\q6/\q3=q3/\q2=q2/\q4=q4/\q0/\q0/\q0/\q0/\q36++[q38]=List.take s' q1)/\s' <= q34/\q33 - s' < q33 - s)/\(q37<=q10->(q36.length+[q40].length)*q14<=q11/\I64 q35/\∃ (s':Nat),(q35=(↑s':Int)/\q5/\q8/\q7/\q6/\q3=q3/\q2=q2/\q4=q4/\q0/\q0/\q0/\q0/\q36++[q40]=List.take s' q1)/\s' <= q34/\q33 - s' < q33 - s))/\((↑q41:Int)<=q15->(q10<q37->q12<=q10/\q10<=q37/\(q36.length+[q39].length)*q14<=q11/\I64 q35/\∃ (s':Nat),(q35=(↑s':Int)/\q5/\q8/\q7/\q6/\q3=q3/\q2=q2/\q4=q4/\q0/\q0/\q0/\q0/\q36++[q39]=List.take s' q1)/\s' <= q34/\q33 - s' < q33 - s)/\(q37<=q10->(q36.length+[x].length)*q14<=q11/\I64 q35/\∃ (s':Nat),(q35=(↑s':Int)/\q5/\q8/\q7/\q6/\q3=q3/\q2=q2/\q4=q4/\q0/\q0/\q0/\q0/\q36++[x]=List.take s' q1)/\s' <= q34/\q33 - s' < q33 - s))) (↑x.tag.b.length:Int)) (Snap.mk x.id x.set (List.take q16 x.chunks) x.held (Str.mk (List.take q17 x.tag.b)))) (Snap.mk x.id x.set x.chunks x.held (Str.mk (List.take q17 x.tag.b)))) (Snap.mk x.id x.set (List.take q16 x.chunks) x.held x.tag)) x.chunks.length)/\((↑q4.length:Int)<=(↑s:Int)\/q13<=(↑s:Int)->q19/\q22/\q21/\q20/\q3=r0.sess/\q2=r0.opens/\q36=r0.snaps)) ((↑s:Int)+q9)) (List.take s q1)) q4.length) q1.length))/\((↑q23:Int)<=q13->(q13<q18->q12<=q13/\q13<=q18/\∃ (s0:Nat),(fun (q43:Nat)=>(fun (q42:Nat)=>(q12=(↑s0:Int)/\q5/\q8/\q7/\q6/\st.sess=q3/\q2=q2/\q4=q4/\q0/\q0/\q0/\q0/\List.take s0 q1=[])/\s0<=q43/\∀ (s:Nat),(fun (q45:List (den (Sh.nm NT.snap)))=>(fun (q44:Int)=>s<=q43->((↑s:Int)<(↑q4.length:Int)/\(↑s:Int)<q13->q12<=(↑s:Int)/\(↑s:Int)<(↑q4.length:Int)/\∀ (x:Snap),(fun (q50:Nat)=>(fun (q49:Snap)=>(fun (q48:Snap)=>(fun (q47:Snap)=>(fun (q46:Int)=>q4[s]? = some x->I64 x.id->I64 x.set->q50*(8:Nat)<=q11->x.tag.b.length<=q11->(q15<(↑q50:Int)->q12<=q15/\q15<=(↑q50:Int)/\(q10<q46->q12<=q10/\q10<=q46/\(q45.length+[q47].length)*q14<=q11/\I64 q44/\∃ (s':Nat),(q44=(↑s':Int)/\q5/\q8/\q7/\q6/\q3=q3/\q2=q2/\q4=q4/\q0/\q0/\q0/\q0/\q45++[q47]=List.take s' q1)/\s' <= q43/\q42 - s' < q42 - s)/\(q46<=q10->(q45.length+[q49].length)*q14<=q11/\I64 q44/\∃ (s':Nat),(q44=(↑s':Int)/\q5/\q8/\q7/\q6/\q3=q3/\q2=q2/\q4=q4/\q0/\q0/\q0/\q0/\q45++[q49]=List.take s' q1)/\s' <= q43/\q42 - s' < q42 - s))/\((↑q50:Int)<=q15->(q10<q46->q12<=q10/\q10<=q46/\(q45.length+[q48].length)*q14<=q11/\I64 q44/\∃ (s':Nat),(q44=(↑s':Int)/\q5/\q8/\q7/\q6/\q3=q3/\q2=q2/\q4=q4/\q0/\q0/\q0/\q0/\q45++[q48]=List.take s' q1)/\s' <= q43/\q42 - s' < q42 - s)/\(q46<=q10->(q45.length+[x].length)*q14<=q11/\I64 q44/\∃ (s':Nat),(q44=(↑s':Int)/\q5/\q8/\q7/\q6/\q3=q3/\q2=q2/\q4=q4/\q0/\q0/\q0/\q0/\q45++[x]=List.take s' q1)/\s' <= q43/\q42 - s' < q42 - s))) (↑x.tag.b.length:Int)) (Snap.mk x.id x.set (List.take q16 x.chunks) x.held (Str.mk (List.take q17 x.tag.b)))) (Snap.mk x.id x.set x.chunks x.held (Str.mk (List.take q17 x.tag.b)))) (Snap.mk x.id x.set (List.take q16 x.chunks) x.held x.tag)) x.chunks.length)/\((↑q4.length:Int)<=(↑s:Int)\/q13<=(↑s:Int)->q19/\q22/\q21/\q20/\q3=r0.sess/\q2=r0.opens/\q45=r0.snaps)) ((↑s:Int)+q9)) (List.take s q1)) q4.length) q1.length)/\(q18<=q13->∃ (s0:Nat),(fun (q52:Nat)=>(fun (q51:Nat)=>(q12=(↑s0:Int)/\q5/\q8/\q7/\q6/\st.sess=q3/\st.opens=q2/\q4=q4/\q0/\q0/\q0/\q0/\List.take s0 q1=[])/\s0<=q52/\∀ (s:Nat),(fun (q54:List (den (Sh.nm NT.snap)))=>(fun (q53:Int)=>s<=q52->((↑s:Int)<(↑q4.length:Int)/\(↑s:Int)<q13->q12<=(↑s:Int)/\(↑s:Int)<(↑q4.length:Int)/\∀ (x:Snap),(fun (q59:Nat)=>(fun (q58:Snap)=>(fun (q57:Snap)=>(fun (q56:Snap)=>(fun (q55:Int)=>q4[s]? = some x->I64 x.id->I64 x.set->q59*(8:Nat)<=q11->x.tag.b.length<=q11->(q15<(↑q59:Int)->q12<=q15/\q15<=(↑q59:Int)/\(q10<q55->q12<=q10/\q10<=q55/\(q54.length+[q56].length)*q14<=q11/\I64 q53/\∃ (s':Nat),(q53=(↑s':Int)/\q5/\q8/\q7/\q6/\q3=q3/\q2=q2/\q4=q4/\q0/\q0/\q0/\q0/\q54++[q56]=List.take s' q1)/\s' <= q52/\q51 - s' < q51 - s)/\(q55<=q10->(q54.length+[q58].length)*q14<=q11/\I64 q53/\∃ (s':Nat),(q53=(↑s':Int)/\q5/\q8/\q7/\q6/\q3=q3/\q2=q2/\q4=q4/\q0/\q0/\q0/\q0/\q54++[q58]=List.take s' q1)/\s' <= q52/\q51 - s' < q51 - s))/\((↑q59:Int)<=q15->(q10<q55->q12<=q10/\q10<=q55/\(q54.length+[q57].length)*q14<=q11/\I64 q53/\∃ (s':Nat),(q53=(↑s':Int)/\q5/\q8/\q7/\q6/\q3=q3/\q2=q2/\q4=q4/\q0/\q0/\q0/\q0/\q54++[q57]=List.take s' q1)/\s' <= q52/\q51 - s' < q51 - s)/\(q55<=q10->(q54.length+[x].length)*q14<=q11/\I64 q53/\∃ (s':Nat),(q53=(↑s':Int)/\q5/\q8/\q7/\q6/\q3=q3/\q2=q2/\q4=q4/\q0/\q0/\q0/\q0/\q54++[x]=List.take s' q1)/\s' <= q52/\q51 - s' < q51 - s))) (↑x.tag.b.length:Int)) (Snap.mk x.id x.set (List.take q16 x.chunks) x.held (Str.mk (List.take q17 x.tag.b)))) (Snap.mk x.id x.set x.chunks x.held (Str.mk (List.take q17 x.tag.b)))) (Snap.mk x.id x.set (List.take q16 x.chunks) x.held x.tag)) x.chunks.length)/\((↑q4.length:Int)<=(↑s:Int)\/q13<=(↑s:Int)->q19/\q22/\q21/\q20/\q3=r0.sess/\q2=r0.opens/\q54=r0.snaps)) ((↑s:Int)+q9)) (List.take s q1)) q4.length) q1.length))) (q12=q12)) (df st).snaps) (List.take (20:Nat) st.opens)) (List.take (20:Nat) st.sess)) st.snaps) (st.version=st.version)) (st.quota=st.quota)) (st.keep=st.keep)) (st.next=st.next)) (1:Int)) (40:Int)) (140737488355328:Nat)) (0:Int)) (20:Int)) (64:Nat)) (12:Int)) (12:Nat)) (40:Nat)) (↑st.opens.length:Int)) (st.version=r0.version)) (st.quota=r0.quota)) (st.keep=r0.keep)) (st.next=r0.next)) st.sess.length):=by kernel_rfl
theorem Dr (st:State):Sat Try.prog (av aL) 11 [.agg (cellsOf (.nm .state) st)] [] ⟨[],[.agg (cellsOf (.nm .state) (df st))],none,false⟩:=by
 refine aY gb (Cl st) Try.func11 (by decide) (by kernel_rfl) ?_
 rw [CO]
 (repeat' (first | with_reducible refine And.intro ?_ ?_ | with_reducible refine and_imp.2 ?_ | intro))
 all_goals try (first | (first | with_reducible rfl | with_reducible assumption | omega | (refine aq ?_ ?_ <;> omega)) | exact rfl | exact (List.take_of_length_le (by omega)).symm | exact (DZ (by with_reducible assumption) (by omega) (by omega) (by omega)) | exact (C_ (by with_reducible assumption) (by omega) (by omega) (by omega)) | exact (CQ (by with_reducible assumption) (by omega) (by omega) (by omega)) | exact (EA (by with_reducible assumption) (by omega) (by omega) (by omega)) | exact (sW (by omega)) | exact (yj (by omega) (by omega)) | exact (List.take_of_length_le (xI (by omega))))
 all_goals try (refine ⟨0,?_⟩; (repeat' (first | with_reducible refine And.intro ?_ ?_ | with_reducible refine and_imp.2 ?_ | intro)))
 all_goals try (first | (first | with_reducible rfl | with_reducible assumption | omega | (refine aq ?_ ?_ <;> omega)) | exact rfl | exact (List.take_of_length_le (by omega)).symm | exact (DZ (by with_reducible assumption) (by omega) (by omega) (by omega)) | exact (C_ (by with_reducible assumption) (by omega) (by omega) (by omega)) | exact (CQ (by with_reducible assumption) (by omega) (by omega) (by omega)) | exact (EA (by with_reducible assumption) (by omega) (by omega) (by omega)) | exact (sW (by omega)) | exact (yj (by omega) (by omega)) | exact (List.take_of_length_le (xI (by omega))))
 all_goals try (refine ⟨‹Nat› + 1,?_⟩; (repeat' (first | with_reducible refine And.intro ?_ ?_ | with_reducible refine and_imp.2 ?_ | intro)))
 all_goals (first | (first | with_reducible rfl | with_reducible assumption | omega | (refine aq ?_ ?_ <;> omega)) | exact rfl | exact (List.take_of_length_le (by omega)).symm | exact (DZ (by with_reducible assumption) (by omega) (by omega) (by omega)) | exact (C_ (by with_reducible assumption) (by omega) (by omega) (by omega)) | exact (CQ (by with_reducible assumption) (by omega) (by omega) (by omega)) | exact (EA (by with_reducible assumption) (by omega) (by omega) (by omega)) | exact (sW (by omega)) | exact (yj (by omega) (by omega)) | exact (List.take_of_length_le (xI (by omega))))
theorem Fo (l:List Int) (xs:List Int) (r0:List Int):nK aL nu (Fz l xs) Try.f99 [.c (.ptr 0 0),.c (.fz .int (l))] [.arr 94 .int 65 (xs)] [] [.arr 94 .int 65 (r0)]=((fun (q1:Int)=>(fun (q0:Nat)=>l.length*(8:Nat)<=(140737488355328:Nat)->∃ (s0:Nat),(fun (q2:Int)=>(l=l/\(↑l.length:Int)=q2/\(0:Int)=(↑s0:Int)/\xs=cz xs (List.take s0 l))/\s0<=q0/\∀ (s:Nat),(fun (q4:Int)=>(fun (q3:List Int)=>s<=q0->((↑s:Int)<q2->(0:Int)<=(↑s:Int)/\(↑s:Int)<(↑l.length:Int)/\∀ (x:Int),(fun (q5:den Sh.int)=>l[s]? = some x->I64 x->(q1<=x/\x<=(64:Int)->(0:Int)<=x/\x<(↑(65:Nat):Int)/\x.toNat<(65:Nat)/\I64 (q5+q1)/\(0:Int)<=x/\x<(↑(65:Nat):Int)/\(I64 q5->x.toNat<(65:Nat)/\I64 q4/\∃ (s':Nat),(l=l/\q2=q2/\q4=(↑s':Int)/\q3.set x.toNat (q5+q1)=cz xs (List.take s' l))/\s' <= q0/\q0 - s' < q0 - s))/\(x<q1\/(64:Int)<x->I64 q4/\∃ (s':Nat),(l=l/\q2=q2/\q4=(↑s':Int)/\q3=cz xs (List.take s' l))/\s' <= q0/\q0 - s' < q0 - s)) (q3.getD x.toNat (dflt Sh.int)))/\(q2<=(↑s:Int)->q3=r0)) (cz xs (List.take s l))) ((↑s:Int)+q1)) (↑q0:Int)) l.length) (1:Int)):=by kernel_rfl
theorem FQ (l:List Int) (xs:List Int) (h0:nI xs l):Sat Try.prog (av aL) 99 [.c (.ptr 0 0),.c (.fz .int (l))] [.arr 94 .int 65 (xs)] ⟨[nI xs l],[],some ([.arr 94 .int 65 ((cz xs l))]),false⟩:=by
 refine dp gb (Fz l xs) Try.func99 (by decide) (by kernel_rfl) ?_
 rw [Fo]
 (repeat' (first | with_reducible refine And.intro ?_ ?_ | with_reducible refine and_imp.2 ?_ | intro))
 all_goals try (first | (first | with_reducible rfl | with_reducible assumption | omega | (refine aq ?_ ?_ <;> omega)) | exact rfl | exact (yF (by with_reducible assumption) (by constructor <;> omega)) | exact (wF (by with_reducible assumption) (by omega)) | exact (by rw [List.take_of_length_le (by omega)]) | exact (zR (by with_reducible assumption)))
 all_goals try (refine ⟨0,?_⟩; (repeat' (first | with_reducible refine And.intro ?_ ?_ | with_reducible refine and_imp.2 ?_ | intro)))
 all_goals try (first | (first | with_reducible rfl | with_reducible assumption | omega | (refine aq ?_ ?_ <;> omega)) | exact rfl | exact (yF (by with_reducible assumption) (by constructor <;> omega)) | exact (wF (by with_reducible assumption) (by omega)) | exact (by rw [List.take_of_length_le (by omega)]) | exact (zR (by with_reducible assumption)))
 all_goals try (refine ⟨‹Nat› + 1,?_⟩; (repeat' (first | with_reducible refine And.intro ?_ ?_ | with_reducible refine and_imp.2 ?_ | intro)))
 all_goals (first | (first | with_reducible rfl | with_reducible assumption | omega | (refine aq ?_ ?_ <;> omega)) | exact rfl | exact (yF (by with_reducible assumption) (by constructor <;> omega)) | exact (wF (by with_reducible assumption) (by omega)) | exact (by rw [List.take_of_length_le (by omega)]) | exact (zR (by with_reducible assumption)))
def Cw:cY:=(bX 99 (bR (ak (kC (bL 0 0)) (ak (kC (cL .int)) aU)) (ay (oP 94 .int 65) aR) fun (_,l,_) (xs,_)=>⟨[nI xs l],[],some ([.arr 94 .int 65 ((cz xs l))]),false⟩) (bX 11 (bR (ak (kT (.nm .state)) aU) aR fun (st,_) (_)=>⟨[],[.agg (cellsOf (.nm .state) (df st))],none,false⟩) (bX 35 (bR (ak (kC (cL (.nm .snap))) (ak (kC (cL (.nm .snap))) aU)) aR fun (a,b,_) (_)=>⟨[],[.c (.bool (.atom ((decide (a=b)))))],none,false⟩) (bX 28 (bR (ak (kT (.nm .state)) (ak (kT (.nm .command)) aU)) aR fun (st,c,_) (_)=>⟨[],[.c (.int ((if mayF st st.version=0 then bE c st.version else 1)))],none,false⟩) nu))))
theorem wY:bf Try.prog (av aL) Cw:=(aC (aB (ae (aw aJ) (ae (aw bV) ao)) (ag fw al) fun (_,l,_) (xs,_) hp=>FQ l xs (eO hp)) (aC (aB (ae bP ao) al fun (st,_) (_) _=>Dr st ) (aC (aB (ae (aw bV) (ae (aw bV) ao)) al fun (a,b,_) (_) _=>sE a b ) (aC (aB (ae bP (ae bP ao)) al fun (st,c,_) (_) _=>De st c ) gb))))
end Go.Proofs.Ytmmbibcfkdabeaa
namespace Go.Proofs.Ytmmbibcfkdabeaa
open Go.RowKit
section
variable {B:Bool} {k:Nat}
variable {st:State} {v:Int}
end
def xc:cY:=Cw
theorem rh:bf Try.prog (av aL) xc:=wY
end Go.Proofs.Ytmmbibcfkdabeaa
namespace Go.Proofs.Ytmmbibcfkdabeaa
open Go.RowKit
theorem wu {a b:State} (h:((((¬ a.version=b.version\/¬ a.next=b.next)\/¬ a.keep=b.keep)\/¬ a.quota=b.quota)\/¬ ((a.sess.length:Nat):Int)=(b.sess.length:Nat))\/¬ ((a.opens.length:Nat):Int)=(b.opens.length:Nat)):false=decide (a=b):=by
 symm; apply decide_eq_false; rintro rfl; simp at h
theorem uW {a b:State} {s:Nat} (h:¬ (a.sess.getD s (dflt (.nm .sess))).client=(b.sess.getD s (dflt (.nm .sess))).client\/¬ (a.sess.getD s (dflt (.nm .sess))).seq=(b.sess.getD s (dflt (.nm .sess))).seq\/¬ (a.sess.getD s (dflt (.nm .sess))).last.code=(b.sess.getD s (dflt (.nm .sess))).last.code\/¬ (a.sess.getD s (dflt (.nm .sess))).last.n=(b.sess.getD s (dflt (.nm .sess))).last.n):false=decide (a=b):=by
 symm; apply decide_eq_false; rintro rfl; simp at h
theorem vY {a b:State} {s:Nat} (h:¬ (a.opens.getD s (dflt (.nm .opn))).set=(b.opens.getD s (dflt (.nm .opn))).set\/¬ (a.opens.getD s (dflt (.nm .opn))).client=(b.opens.getD s (dflt (.nm .opn))).client):false=decide (a=b):=by
 symm; apply decide_eq_false; rintro rfl; simp at h
theorem Aj {x y:Sess} (h1:x.client=y.client) (h2:x.seq=y.seq) (h3:x.last.code=y.last.code) (h4:x.last.n=y.last.n):x=y:=by
 obtain ⟨a,b,⟨c,d⟩⟩:=x; obtain ⟨a',b',⟨c',d'⟩⟩:=y; simp_all
theorem Ei {x y:Opn} (h1:x.set=y.set) (h2:x.client=y.client):x=y:=by cases x; cases y; simp_all
theorem nt {a b:List Sess} {s:Nat} (h:a.take s=b.take s) (h1:(a.getD s (dflt (.nm .sess))).client=(b.getD s (dflt (.nm .sess))).client) (h2:(a.getD s (dflt (.nm .sess))).seq=(b.getD s (dflt (.nm .sess))).seq) (h3:(a.getD s (dflt (.nm .sess))).last.code=(b.getD s (dflt (.nm .sess))).last.code) (h4:(a.getD s (dflt (.nm .sess))).last.n=(b.getD s (dflt (.nm .sess))).last.n) (ha:s<a.length) (hb:s<b.length):a.take (s+1)=b.take (s+1):=uN h ha hb (Aj h1 h2 h3 h4)
theorem nj {a b:List Opn} {s:Nat} (h:a.take s=b.take s) (h1:(a.getD s (dflt (.nm .opn))).set=(b.getD s (dflt (.nm .opn))).set) (h2:(a.getD s (dflt (.nm .opn))).client=(b.getD s (dflt (.nm .opn))).client) (ha:s<a.length) (hb:s<b.length):a.take (s+1)=b.take (s+1):=uN h ha hb (Ei h1 h2)
theorem uU {a b:State} {s q:Nat} (h1:a.version=b.version) (h2:a.next=b.next) (h3:a.keep=b.keep) (h4:a.quota=b.quota) (h5:a.sess.take s=b.sess.take s) (h6:a.opens.take q=b.opens.take q) (ha:a.sess.length<=s) (hb:b.sess.length<=s) (hc:a.opens.length<=q) (hd:b.opens.length<=q):decide (a.snaps=b.snaps)=decide (a=b):=by
 rw [List.take_of_length_le ha,List.take_of_length_le hb] at h5
 rw [List.take_of_length_le hc,List.take_of_length_le hd] at h6
 cases a; cases b; simp_all
def zX (a:State) (b:State):List (Nat × LI):=[(4,{ σ:=Nat,F:=fun k=>([(2,one (.ptr 0 0)),(3,one (.ptr 1 0)),(5,one (.int k))],[.box 26 (cellsOf (.nm .state) ((a))),.box 26 (cellsOf (.nm .state) ((b)))]),J:=fun k=>k<=a.sess.length/\a.sess.take k=b.sess.take k,μ:=fun k=>a.sess.length - k }),(9,{ σ:=Nat,F:=fun k=>([(2,one (.ptr 0 0)),(3,one (.ptr 1 0)),(6,one (.int k))],[.box 26 (cellsOf (.nm .state) ((a))),.box 26 (cellsOf (.nm .state) ((b)))]),J:=fun k=>k<=a.opens.length/\a.opens.take k=b.opens.take k,μ:=fun k=>a.opens.length - k })]
theorem Bn (a:State) (b:State) (r0:Bool):du aL xc (zX a b) Try.f15 [.agg (cellsOf (.nm .state) a),.agg (cellsOf (.nm .state) b)] [] [.c (.bool (.atom (r0)))]=((fun (q8:Nat)=>(fun (q7:Int)=>(fun (q6:List Opn)=>(fun (q5:List Sess)=>(fun (q4:den (Sh.nm NT.opn))=>(fun (q3:List Opn)=>(fun (q2:List Sess)=>(fun (q1:den (Sh.nm NT.sess))=>(fun (q0:Prop)=>I64 a.version->I64 a.next->I64 a.keep->I64 a.quota->q2.length*(32:Nat)<=q8->q3.length*(16:Nat)<=q8->a.snaps.length*(64:Nat)<=q8->I64 b.version->I64 b.next->I64 b.keep->I64 b.quota->q5.length*(32:Nat)<=q8->q6.length*(16:Nat)<=q8->b.snaps.length*(64:Nat)<=q8->(((((¬a.version=b.version\/¬a.next=b.next)\/¬a.keep=b.keep)\/¬a.quota=b.quota)\/¬(↑q2.length:Int)=(↑q5.length:Int))\/¬(↑q3.length:Int)=(↑q6.length:Int)->false=r0)/\(((((a.version=b.version/\a.next=b.next)/\a.keep=b.keep)/\a.quota=b.quota)/\(↑q2.length:Int)=(↑q5.length:Int))/\(↑q3.length:Int)=(↑q6.length:Int)->∃ (s0:Nat),(q7=(↑s0:Int)/\q0)/\(s0<=q2.length/\List.take s0 q2=List.take s0 q5)/\∀ (s:Nat),(fun (q10:den (Sh.nm NT.sess))=>(fun (q9:den (Sh.nm NT.sess))=>s<=q2.length/\List.take s q2=List.take s q5->((↑s:Int)<(↑q2.length:Int)->q7<=(↑s:Int)/\(↑s:Int)<(↑q2.length:Int)/\q7<=(↑s:Int)/\(↑s:Int)<(↑q5.length:Int)/\(I64 q10.client->I64 q10.seq->I64 q10.last.code->I64 q10.last.n->I64 q9.client->I64 q9.seq->I64 q9.last.code->I64 q9.last.n->(¬q10.client=q9.client\/¬q10.seq=q9.seq\/¬q10.last.code=q9.last.code\/¬q10.last.n=q9.last.n->false=r0)/\(q10.client=q9.client/\q10.seq=q9.seq/\q10.last.code=q9.last.code/\q10.last.n=q9.last.n->I64 ((↑s:Int)+(1:Int))/\∃ (s':Nat),((↑s:Int)+(1:Int)=(↑s':Int)/\q0)/\(s' <= q2.length/\List.take s' q2=List.take s' q5)/\q2.length - s' < q2.length - s)))/\((↑q2.length:Int)<=(↑s:Int)->∃ (s0:Nat),(q7=(↑s0:Int)/\q0)/\(s0<=q3.length/\List.take s0 q3=List.take s0 q6)/\∀ (s:Nat),(fun (q12:den (Sh.nm NT.opn))=>(fun (q11:den (Sh.nm NT.opn))=>s<=q3.length/\List.take s q3=List.take s q6->((↑s:Int)<(↑q3.length:Int)->q7<=(↑s:Int)/\(↑s:Int)<(↑q3.length:Int)/\q7<=(↑s:Int)/\(↑s:Int)<(↑q6.length:Int)/\(I64 q12.set->I64 q12.client->I64 q11.set->I64 q11.client->(¬q12.set=q11.set\/¬q12.client=q11.client->false=r0)/\(q12.set=q11.set/\q12.client=q11.client->I64 ((↑s:Int)+(1:Int))/\∃ (s':Nat),((↑s:Int)+(1:Int)=(↑s':Int)/\q0)/\(s' <= q3.length/\List.take s' q3=List.take s' q6)/\q3.length - s' < q3.length - s)))/\((↑q3.length:Int)<=(↑s:Int)->decide (a.snaps=b.snaps)=r0)) (q6.getD s q4)) (q3.getD s q4))) (q5.getD s q1)) (q2.getD s q1))) (a.version=a.version/\a.next=a.next/\a.keep=a.keep/\a.quota=a.quota/\q2=q2/\q3=q3/\a.snaps=a.snaps/\b.version=b.version/\b.next=b.next/\b.keep=b.keep/\b.quota=b.quota/\q5=q5/\q6=q6/\b.snaps=b.snaps)) (dflt (Sh.nm NT.sess))) a.sess) a.opens) (dflt (Sh.nm NT.opn))) b.sess) b.opens) (0:Int)) (140737488355328:Nat)):=by kernel_rfl
theorem BA (a:State) (b:State):Sat Try.prog (av aL) 15 [.agg (cellsOf (.nm .state) a),.agg (cellsOf (.nm .state) b)] [] ⟨[],[.c (.bool (.atom ((decide (a=b)))))],none,false⟩:=by
 refine aY rh (zX a b) Try.func15 (by decide) (by kernel_rfl) ?_
 rw [Bn]
 (repeat' (first | with_reducible refine And.intro ?_ ?_ | with_reducible refine and_imp.2 ?_ | intro))
 all_goals try (first | (first | with_reducible rfl | with_reducible assumption | omega | (refine aq ?_ ?_ <;> omega)) | exact rfl | exact (wu (by assumption)) | exact (uW (by assumption)) | exact (vY (by assumption)) | exact (nt (by with_reducible assumption) (by with_reducible assumption) (by with_reducible assumption) (by with_reducible assumption) (by with_reducible assumption) (by omega) (by omega)) | exact (nj (by with_reducible assumption) (by with_reducible assumption) (by with_reducible assumption) (by omega) (by omega)) | exact (uU (by with_reducible assumption) (by with_reducible assumption) (by with_reducible assumption) (by with_reducible assumption) (by with_reducible assumption) (by with_reducible assumption) (by omega) (by omega) (by omega) (by omega)))
 all_goals try (refine ⟨0,?_⟩; (repeat' (first | with_reducible refine And.intro ?_ ?_ | with_reducible refine and_imp.2 ?_ | intro)))
 all_goals try (first | (first | with_reducible rfl | with_reducible assumption | omega | (refine aq ?_ ?_ <;> omega)) | exact rfl | exact (wu (by assumption)) | exact (uW (by assumption)) | exact (vY (by assumption)) | exact (nt (by with_reducible assumption) (by with_reducible assumption) (by with_reducible assumption) (by with_reducible assumption) (by with_reducible assumption) (by omega) (by omega)) | exact (nj (by with_reducible assumption) (by with_reducible assumption) (by with_reducible assumption) (by omega) (by omega)) | exact (uU (by with_reducible assumption) (by with_reducible assumption) (by with_reducible assumption) (by with_reducible assumption) (by with_reducible assumption) (by with_reducible assumption) (by omega) (by omega) (by omega) (by omega)))
 all_goals try (have hg:(‹Nat›:Int)<(a.sess.length:Int):=(by omega); clear hg; refine ⟨‹Nat› + 1,?_⟩; (repeat' (first | with_reducible refine And.intro ?_ ?_ | with_reducible refine and_imp.2 ?_ | intro)))
 all_goals try (first | (first | with_reducible rfl | with_reducible assumption | omega | (refine aq ?_ ?_ <;> omega)) | exact rfl | exact (wu (by assumption)) | exact (uW (by assumption)) | exact (vY (by assumption)) | exact (nt (by with_reducible assumption) (by with_reducible assumption) (by with_reducible assumption) (by with_reducible assumption) (by with_reducible assumption) (by omega) (by omega)) | exact (nj (by with_reducible assumption) (by with_reducible assumption) (by with_reducible assumption) (by omega) (by omega)) | exact (uU (by with_reducible assumption) (by with_reducible assumption) (by with_reducible assumption) (by with_reducible assumption) (by with_reducible assumption) (by with_reducible assumption) (by omega) (by omega) (by omega) (by omega)))
 all_goals try (have hg:((a.sess.length:Nat):Int)<=(‹Nat›:Int):=(by omega); clear hg; refine ⟨0,?_⟩; (repeat' (first | with_reducible refine And.intro ?_ ?_ | with_reducible refine and_imp.2 ?_ | intro)))
 all_goals try (first | (first | with_reducible rfl | with_reducible assumption | omega | (refine aq ?_ ?_ <;> omega)) | exact rfl | exact (wu (by assumption)) | exact (uW (by assumption)) | exact (vY (by assumption)) | exact (nt (by with_reducible assumption) (by with_reducible assumption) (by with_reducible assumption) (by with_reducible assumption) (by with_reducible assumption) (by omega) (by omega)) | exact (nj (by with_reducible assumption) (by with_reducible assumption) (by with_reducible assumption) (by omega) (by omega)) | exact (uU (by with_reducible assumption) (by with_reducible assumption) (by with_reducible assumption) (by with_reducible assumption) (by with_reducible assumption) (by with_reducible assumption) (by omega) (by omega) (by omega) (by omega)))
 all_goals try (refine ⟨‹Nat› + 1,?_⟩; (repeat' (first | with_reducible refine And.intro ?_ ?_ | with_reducible refine and_imp.2 ?_ | intro)))
 all_goals try (first | (first | with_reducible rfl | with_reducible assumption | omega | (refine aq ?_ ?_ <;> omega)) | exact rfl | exact (wu (by assumption)) | exact (uW (by assumption)) | exact (vY (by assumption)) | exact (nt (by with_reducible assumption) (by with_reducible assumption) (by with_reducible assumption) (by with_reducible assumption) (by with_reducible assumption) (by omega) (by omega)) | exact (nj (by with_reducible assumption) (by with_reducible assumption) (by with_reducible assumption) (by omega) (by omega)) | exact (uU (by with_reducible assumption) (by with_reducible assumption) (by with_reducible assumption) (by with_reducible assumption) (by with_reducible assumption) (by with_reducible assumption) (by omega) (by omega) (by omega) (by omega)))
 all_goals (first | (first | with_reducible rfl | with_reducible assumption | omega | (refine aq ?_ ?_ <;> omega)) | exact rfl | exact (wu (by assumption)) | exact (uW (by assumption)) | exact (vY (by assumption)) | exact (nt (by with_reducible assumption) (by with_reducible assumption) (by with_reducible assumption) (by with_reducible assumption) (by with_reducible assumption) (by omega) (by omega)) | exact (nj (by with_reducible assumption) (by with_reducible assumption) (by with_reducible assumption) (by omega) (by omega)) | exact (uU (by with_reducible assumption) (by with_reducible assumption) (by with_reducible assumption) (by with_reducible assumption) (by with_reducible assumption) (by with_reducible assumption) (by omega) (by omega) (by omega) (by omega)))
def nR:cY:=(bX 15 (bR (ak (kT (.nm .state)) (ak (kT (.nm .state)) aU)) aR fun (a,b,_) (_)=>⟨[],[.c (.bool (.atom ((decide (a=b)))))],none,false⟩) xc)
theorem fH:bf Try.prog (av aL) nR:=(aC (aB (ae bP (ae bP ao)) al fun (a,b,_) (_) _=>BA a b ) rh)
end Go.Proofs.Ytmmbibcfkdabeaa
namespace Go.Proofs.Ytmmbibcfkdabeaa
open Go.RowKit
def cX (xs:List Int) (c:Int):Bool:=decide (0<xs.getD c.toNat (dflt .int))
def cV (xs ys:List Int) (c:Int):Bool:=decide (0<xs.getD c.toNat (dflt .int)) && decide (ys.getD c.toNat (dflt .int)=0)
def fG (p:Int->Bool) (k:Nat):List Int:=((List.range k).map fun (i:Nat)=>(i:Int)+1).filter p
theorem vM {p:Int->Bool} {k:Nat} (h:p ((k:Int)+1)=true):fG p k++[(k:Int)+1]=fG p (k+1):=by
 unfold fG; rw [List.range_succ,List.map_append,List.filter_append]; simp [h]
theorem vR {p:Int->Bool} {k:Nat} (h:p ((k:Int)+1)=false):fG p k=fG p (k+1):=by
 unfold fG; rw [List.range_succ,List.map_append,List.filter_append]; simp [h]
theorem vg {p:Int->Bool} {k:Nat} (h:k<=64) (h2:64<(k:Int)+1):fG p k=fG p 64:=by rw [show k=64 by omega]
theorem jf {p:Int->Bool} {k:Nat} {n:Int} (h:k<=64):((fG p k).length+[n].length)*8<=140737488355328:=by
 have:=List.length_filter_le p ((List.range k).map fun (i:Nat)=>(i:Int)+1)
 rw [List.length_map,List.length_range] at this
 unfold fG; simp only [List.length_cons,List.length_nil]; omega
def bC (l:List Snap):List Int:=l.foldl (fun t x=>cz t x.chunks) (List.replicate 65 0)
theorem mH:∀ (l xs:List Int),(cz xs l).length=xs.length
 | [],_=>rfl
 | n :: l,xs=>by
  show (cz (if 1<=n/\n<=64 then xs.set n.toNat (xs.getD n.toNat 0+1) else xs) l).length=_
  rw [mH l]; split
  ·rw [List.length_set]
  ·rfl
theorem fO {l:List Snap} {x:Snap}:bC (l++[x])=cz (bC l) x.chunks:=by unfold bC; rw [List.foldl_append]; rfl
theorem sN {l:List Snap} {k:Nat} {x:Snap} (hx:l[k]? = some x):cz (bC (l.take k)) x.chunks=bC (l.take (k+1)):=by rw [aF hx,fO]
theorem oc {p:List Snap->Prop} (h0:p []) (hs:∀ l x,p l->p (l++[x])) (l:List Snap):p l:=by
 have:∀ r:List Snap,p r.reverse:=fun r=>by
  induction r with
  | nil=>exact h0
  | cons x r ih=>rw [List.reverse_cons]; exact hs _ _ ih
 have h:=this l.reverse
 rwa [List.reverse_reverse] at h
theorem dP (l:List Snap):(bC l).length=65:=by
 refine oc (p:=fun l=>(bC l).length=65) rfl (fun l x h=>?_) l
 rw [fO,mH,h]
theorem rv {l:List Snap} {x:Snap}:nch (l++[x])=nch l+x.chunks.length:=by unfold nch; simp
theorem xC (l:List Snap) (i:Nat):0<=(bC l).getD i 0/\(bC l).getD i 0<=nch l:=by
 refine oc (p:=fun l=>0<=(bC l).getD i 0/\(bC l).getD i 0<=nch l) ?_ (fun l x h=>?_) l
 ·show 0<=(List.replicate 65 (0:Int)).getD i 0/\(List.replicate 65 (0:Int)).getD i 0<=_
  rw [List.getD_eq_getElem?_getD,List.getElem?_replicate]; split <;> simp
 ·have:=sd x.chunks (bC l) i
  rw [fO,rv]; omega
theorem gq {l:List Snap} {k:Nat} {x:Snap} (hx:l[k]? = some x) (h:nch l<=1048576):nI (bC (l.take k)) x.chunks:=fun i=>by
 have h1:=xC (l.take k) i
 have h2:nch (l.take (k+1))<=nch l:=by
  unfold nch; rw [<- List.take_append_drop (k+1) l,List.flatMap_append,List.length_append,List.take_append_drop]; omega
 rw [aF hx,rv] at h2
 omega
theorem tD {l:List Snap} {m:List Int} {s:Sh} (h:nch l<=1048576) (hm:m.length*8<=140737488355328):nI (lU .int (bC l) 0 65) m:=fun i=>by
 rw [ea (dP l)]
 have h1:=xC l i
 omega
theorem uu:∀ (l xs:List Int) (c:Int),1<=c->c<=64->xs.length=65->(cz xs l).getD c.toNat 0=xs.getD c.toNat 0+(l.count c:Nat)
 | [],_,_,_,_,_=>by simp [cz]
 | n :: l,xs,c,h1,h2,h3=>by
  show (cz (if 1<=n/\n<=64 then xs.set n.toNat (xs.getD n.toNat 0+1) else xs) l).getD c.toNat 0=_
  rw [uu l _ c h1 h2 (by split; rw [List.length_set,h3]; exact h3),List.count_cons]
  split
  ·rw [qB]
   by_cases e:n=c
   ·subst e; rw [if_pos ⟨rfl,by omega⟩]; simp; omega
   ·rw [if_neg (by omega)]; simp [e]
  ·by_cases e:n=c
   ·omega
   ·simp [e]
theorem sB (l:List Snap) (c:Int) (h1:1<=c) (h2:c<=64):(bC l).getD c.toNat 0=(py c l:Nat):=by
 refine oc (p:=fun l=>(bC l).getD c.toNat 0=(py c l:Nat)) ?_ (fun l x h=>?_) l
 ·show (List.replicate 65 (0:Int)).getD c.toNat 0=_
  rw [List.getD_eq_getElem?_getD,List.getElem?_replicate]; split <;> simp [py]
 ·rw [fO,uu _ _ _ h1 h2 (dP l),h]
  unfold py; simp
theorem tz (l:List Snap):((fG (cX (bC l)) 64).length:Int)=(distF l:Int):=by
 unfold fG distF om
 rw [List.filter_map,List.length_map]
 congr 2
 apply List.filter_congr
 intro i hi
 rw [List.mem_range] at hi
 have:=sB l ((i:Int)+1) (by omega) (by omega)
 simp only [Function.comp,cX]
 rw [show (dflt .int)=(0:Int) from rfl,this]
 rw [decide_eq_decide]; omega
theorem xd (l m:List Snap) (id:Int) (e:m=aX id l):fG (cV (bC l) (bC m)) 64=fx l id:=by
 subst e
 unfold fG fx iC
 rw [List.filter_map]
 congr 1
 apply List.filter_congr
 intro i hi
 rw [List.mem_range] at hi
 have h1:=sB l ((i:Int)+1) (by omega) (by omega)
 have h2:=sB (aX id l) ((i:Int)+1) (by omega) (by omega)
 simp only [Function.comp,cV]
 rw [show (dflt .int)=(0:Int) from rfl,h1,h2]
 congr 1 <;> (rw [decide_eq_decide]; omega)
def yI (l:List Snap):List (Nat × LI):=[(3,{ σ:=Nat,F:=fun k=>([(2,one (.ptr 0 0)),(3,one (.ptr 1 0)),(6,one (.fz (.nm .snap) (l))),(7,one (.int (l).length)),(8,one (.int k))],[.arr 94 .int 65 ((List.replicate 65 0)),.arr 94 .int 65 ((bC (l.take k)))]),J:=fun k=>k<=l.length,μ:=fun k=>l.length - k })]
def qq (l:List Snap) (id:Int):List (Nat × LI):=[(3,{ σ:=Nat,F:=fun k=>([(1,one (.int (id))),(5,one (.own 0)),(8,one (.fz (.nm .snap) (l))),(9,one (.int (l).length)),(10,one (.int k))],[.row 46 (.nm .snap) ((aX id (l.take k)))]),J:=fun k=>k<=l.length,μ:=fun k=>l.length - k })]
theorem Bj (n:Int) (xs:List Int) (r0:Bool):du aL nR [] Try.f101 [.c (.int (n)),.c (.ptr 0 0)] [.arr 94 .int 65 (xs)] [.c (.bool (.atom (r0)))]=(I64 n->(0:Int)<=n/\n<(↑(65:Nat):Int)/\n.toNat<(65:Nat)/\(I64 (xs.getD n.toNat (dflt Sh.int))->decide ((0:Int)<xs.getD n.toNat (dflt Sh.int))=r0)):=by kernel_rfl
theorem BO (n:Int) (xs:List Int) (h0:0<=n/\n<65):Sat Try.prog (av aL) 101 [.c (.int (n)),.c (.ptr 0 0)] [.arr 94 .int 65 (xs)] ⟨[0<=n/\n<65],[.c (.bool (.atom ((cX xs n))))],none,false⟩:=by
 refine aY fH [] Try.func101 (by decide) (by kernel_rfl) ?_
 rw [Bj]
 (repeat' (first | with_reducible refine And.intro ?_ ?_ | with_reducible refine and_imp.2 ?_ | intro)) <;> first | (first | with_reducible rfl | with_reducible assumption | omega | (refine aq ?_ ?_ <;> omega)) | rfl
theorem xO (n:Int) (xs:List Int) (ys:List Int) (r0:Bool):du aL nR [] Try.f102 [.c (.int (n)),.c (.ptr 0 0),.c (.ptr 1 0)] [.arr 94 .int 65 (xs),.arr 94 .int 65 (ys)] [.c (.bool (.atom (r0)))]=((fun (q1:Int)=>(fun (q0:den Sh.int)=>I64 n->q1<=n/\n<(↑(65:Nat):Int)/\n.toNat<(65:Nat)/\(I64 q0->(q1<q0->q1<=n/\n<(↑(65:Nat):Int)/\n.toNat<(65:Nat))/\((q1<q0->I64 (ys.getD n.toNat (dflt Sh.int)))->(decide (q1<q0) && decide (ys.getD n.toNat (dflt Sh.int)=q1))=r0))) (xs.getD n.toNat (dflt Sh.int))) (0:Int)):=by kernel_rfl
theorem ye (n:Int) (xs:List Int) (ys:List Int) (h0:0<=n/\n<65):Sat Try.prog (av aL) 102 [.c (.int (n)),.c (.ptr 0 0),.c (.ptr 1 0)] [.arr 94 .int 65 (xs),.arr 94 .int 65 (ys)] ⟨[0<=n/\n<65],[.c (.bool (.atom ((cV xs ys n))))],none,false⟩:=by
 refine aY fH [] Try.func102 (by decide) (by kernel_rfl) ?_
 rw [xO]
 (repeat' (first | with_reducible refine And.intro ?_ ?_ | with_reducible refine and_imp.2 ?_ | intro)) <;> first | (first | with_reducible rfl | with_reducible assumption | omega | (refine aq ?_ ?_ <;> omega)) | rfl
theorem Az (l:List Snap) (r0:List Int):du aL nR (yI l) Try.f79 [.c (.fz (.nm .snap) (l))] [] [.agg (jr .int (r0) 0 65)]=((fun (q5:Nat)=>(fun (q4:Nat)=>(fun (q3:Nat)=>(fun (q2:Int)=>(fun (q1:den Sh.int)=>(fun (q0:List (den Sh.int))=>l.length*(64:Nat)<=(140737488355328:Nat)->∃ (s0:Nat),(l=l/\(↑l.length:Int)=(↑q5:Int)/\q2=(↑s0:Int)/\q0=List.replicate q3 (0:den Sh.int)/\q0=bC (List.take s0 l))/\s0<=q5/\∀ (s:Nat),(fun (q7:List Int)=>(fun (q6:List (den Sh.int))=>s<=q5->((↑s:Int)<(↑q5:Int)->q2<=(↑s:Int)/\(↑s:Int)<(↑l.length:Int)/\∀ (x:Snap),l[s]? = some x->I64 x.id->I64 x.set->x.chunks.length*(8:Nat)<=(140737488355328:Nat)->x.tag.b.length<=(140737488355328:Nat)->(∀ (i:Nat),q2<=q7.getD i q2/\q7.getD i q2+(↑x.chunks.length:Int)<=(4611686018427387904:Int))/\I64 ((↑s:Int)+(1:Int))/\∃ (s':Nat),(l=l/\(↑q5:Int)=(↑q5:Int)/\(↑s:Int)+(1:Int)=(↑s':Int)/\List.replicate q3 (0:den Sh.int)=List.replicate q3 (0:den Sh.int)/\cz q7 x.chunks=bC (List.take s' l))/\s' <= q5/\q5 - s' < q5 - s)/\((↑q5:Int)<=(↑s:Int)->q6.getD q4 q1=r0.getD q4 q1/\q6.getD (1:Nat) q1=r0.getD (1:Nat) q1/\q6.getD (2:Nat) q1=r0.getD (2:Nat) q1/\q6.getD (3:Nat) q1=r0.getD (3:Nat) q1/\q6.getD (4:Nat) q1=r0.getD (4:Nat) q1/\q6.getD (5:Nat) q1=r0.getD (5:Nat) q1/\q6.getD (6:Nat) q1=r0.getD (6:Nat) q1/\q6.getD (7:Nat) q1=r0.getD (7:Nat) q1/\q6.getD (8:Nat) q1=r0.getD (8:Nat) q1/\q6.getD (9:Nat) q1=r0.getD (9:Nat) q1/\q6.getD (10:Nat) q1=r0.getD (10:Nat) q1/\q6.getD (11:Nat) q1=r0.getD (11:Nat) q1/\q6.getD (12:Nat) q1=r0.getD (12:Nat) q1/\q6.getD (13:Nat) q1=r0.getD (13:Nat) q1/\q6.getD (14:Nat) q1=r0.getD (14:Nat) q1/\q6.getD (15:Nat) q1=r0.getD (15:Nat) q1/\q6.getD (16:Nat) q1=r0.getD (16:Nat) q1/\q6.getD (17:Nat) q1=r0.getD (17:Nat) q1/\q6.getD (18:Nat) q1=r0.getD (18:Nat) q1/\q6.getD (19:Nat) q1=r0.getD (19:Nat) q1/\q6.getD (20:Nat) q1=r0.getD (20:Nat) q1/\q6.getD (21:Nat) q1=r0.getD (21:Nat) q1/\q6.getD (22:Nat) q1=r0.getD (22:Nat) q1/\q6.getD (23:Nat) q1=r0.getD (23:Nat) q1/\q6.getD (24:Nat) q1=r0.getD (24:Nat) q1/\q6.getD (25:Nat) q1=r0.getD (25:Nat) q1/\q6.getD (26:Nat) q1=r0.getD (26:Nat) q1/\q6.getD (27:Nat) q1=r0.getD (27:Nat) q1/\q6.getD (28:Nat) q1=r0.getD (28:Nat) q1/\q6.getD (29:Nat) q1=r0.getD (29:Nat) q1/\q6.getD (30:Nat) q1=r0.getD (30:Nat) q1/\q6.getD (31:Nat) q1=r0.getD (31:Nat) q1/\q6.getD (32:Nat) q1=r0.getD (32:Nat) q1/\q6.getD (33:Nat) q1=r0.getD (33:Nat) q1/\q6.getD (34:Nat) q1=r0.getD (34:Nat) q1/\q6.getD (35:Nat) q1=r0.getD (35:Nat) q1/\q6.getD (36:Nat) q1=r0.getD (36:Nat) q1/\q6.getD (37:Nat) q1=r0.getD (37:Nat) q1/\q6.getD (38:Nat) q1=r0.getD (38:Nat) q1/\q6.getD (39:Nat) q1=r0.getD (39:Nat) q1/\q6.getD (40:Nat) q1=r0.getD (40:Nat) q1/\q6.getD (41:Nat) q1=r0.getD (41:Nat) q1/\q6.getD (42:Nat) q1=r0.getD (42:Nat) q1/\q6.getD (43:Nat) q1=r0.getD (43:Nat) q1/\q6.getD (44:Nat) q1=r0.getD (44:Nat) q1/\q6.getD (45:Nat) q1=r0.getD (45:Nat) q1/\q6.getD (46:Nat) q1=r0.getD (46:Nat) q1/\q6.getD (47:Nat) q1=r0.getD (47:Nat) q1/\q6.getD (48:Nat) q1=r0.getD (48:Nat) q1/\q6.getD (49:Nat) q1=r0.getD (49:Nat) q1/\q6.getD (50:Nat) q1=r0.getD (50:Nat) q1/\q6.getD (51:Nat) q1=r0.getD (51:Nat) q1/\q6.getD (52:Nat) q1=r0.getD (52:Nat) q1/\q6.getD (53:Nat) q1=r0.getD (53:Nat) q1/\q6.getD (54:Nat) q1=r0.getD (54:Nat) q1/\q6.getD (55:Nat) q1=r0.getD (55:Nat) q1/\q6.getD (56:Nat) q1=r0.getD (56:Nat) q1/\q6.getD (57:Nat) q1=r0.getD (57:Nat) q1/\q6.getD (58:Nat) q1=r0.getD (58:Nat) q1/\q6.getD (59:Nat) q1=r0.getD (59:Nat) q1/\q6.getD (60:Nat) q1=r0.getD (60:Nat) q1/\q6.getD (61:Nat) q1=r0.getD (61:Nat) q1/\q6.getD (62:Nat) q1=r0.getD (62:Nat) q1/\q6.getD (63:Nat) q1=r0.getD (63:Nat) q1/\q6.getD (64:Nat) q1=r0.getD (64:Nat) q1)) (lU Sh.int q7 q4 q3)) (bC (List.take s l))) [q2,q2,q2,q2,q2,q2,q2,q2,q2,q2,q2,q2,q2,q2,q2,q2,q2,q2,q2,q2,q2,q2,q2,q2,q2,q2,q2,q2,q2,q2,q2,q2,q2,q2,q2,q2,q2,q2,q2,q2,q2,q2,q2,q2,q2,q2,q2,q2,q2,q2,q2,q2,q2,q2,q2,q2,q2,q2,q2,q2,q2,q2,q2,q2,q2]) (dflt Sh.int)) (0:Int)) (65:Nat)) (0:Nat)) l.length):=by kernel_rfl
theorem A_ (l:List Snap) (h0:nch l<=1048576):Sat Try.prog (av aL) 79 [.c (.fz (.nm .snap) (l))] [] ⟨[nch l<=1048576],[.agg (jr .int ((bC l)) 0 65)],none,false⟩:=by
 refine aY fH (yI l) Try.func79 (by decide) (by kernel_rfl) ?_
 rw [Az]
 (repeat' (first | with_reducible refine And.intro ?_ ?_ | with_reducible refine and_imp.2 ?_ | intro))
 all_goals try (first | (first | with_reducible rfl | with_reducible assumption | omega | (refine aq ?_ ?_ <;> omega)) | exact rfl | exact (sN (by with_reducible assumption)) | exact (gq (by with_reducible assumption) (by with_reducible assumption) _).1 | exact (gq (by with_reducible assumption) (by with_reducible assumption) _).2 | exact (by rw [ea (dP _),List.take_of_length_le (by omega)]))
 all_goals try (refine ⟨0,?_⟩; (repeat' (first | with_reducible refine And.intro ?_ ?_ | with_reducible refine and_imp.2 ?_ | intro)))
 all_goals try (first | (first | with_reducible rfl | with_reducible assumption | omega | (refine aq ?_ ?_ <;> omega)) | exact rfl | exact (sN (by with_reducible assumption)) | exact (gq (by with_reducible assumption) (by with_reducible assumption) _).1 | exact (gq (by with_reducible assumption) (by with_reducible assumption) _).2 | exact (by rw [ea (dP _),List.take_of_length_le (by omega)]))
 all_goals try (refine ⟨‹Nat› + 1,?_⟩; (repeat' (first | with_reducible refine And.intro ?_ ?_ | with_reducible refine and_imp.2 ?_ | intro)))
 all_goals (first | (first | with_reducible rfl | with_reducible assumption | omega | (refine aq ?_ ?_ <;> omega)) | exact rfl | exact (sN (by with_reducible assumption)) | exact (gq (by with_reducible assumption) (by with_reducible assumption) _).1 | exact (gq (by with_reducible assumption) (by with_reducible assumption) _).2 | exact (by rw [ea (dP _),List.take_of_length_le (by omega)]))
theorem wx (l:List Snap) (id:Int) (r0:List Snap):uy aL nR (qq l id) Try.f82 [.c (.fz (.nm .snap) (l)),.c (.int (id))] [] [.c (.own 0)] [.row 46 (.nm .snap) (r0)]=((fun (q0:Nat)=>l.length*(64:Nat)<=(140737488355328:Nat)->I64 id->∃ (s0:Nat),(fun (q1:Int)=>(id=id/\l=l/\(↑l.length:Int)=q1/\(0:Int)=(↑s0:Int)/\aX id (List.take s0 l)=[])/\s0<=q0/\∀ (s:Nat),(fun (q3:List Snap)=>(fun (q2:Int)=>s<=q0->((↑s:Int)<q1->(0:Int)<=(↑s:Int)/\(↑s:Int)<(↑l.length:Int)/\∀ (x:Snap),(fun (q4:Prop)=>l[s]? = some x->I64 x.id->I64 x.set->q4->x.tag.b.length<=(140737488355328:Nat)->(¬x.id=id->q4->(q3.length+[x].length)*(64:Nat)<=(140737488355328:Nat)/\I64 q2/\∃ (s':Nat),(id=id/\l=l/\q1=q1/\q2=(↑s':Int)/\q3++[x]=aX id (List.take s' l))/\s' <= q0/\q0 - s' < q0 - s)/\(x.id=id->I64 q2/\∃ (s':Nat),(id=id/\l=l/\q1=q1/\q2=(↑s':Int)/\q3=aX id (List.take s' l))/\s' <= q0/\q0 - s' < q0 - s)) (x.chunks.length*(8:Nat)<=(140737488355328:Nat)))/\(q1<=(↑s:Int)->q3=r0)) ((↑s:Int)+(1:Int))) (aX id (List.take s l))) (↑q0:Int)) l.length):=by kernel_rfl
theorem vX (l:List Snap) (id:Int):Sat Try.prog (av aL) 82 [.c (.fz (.nm .snap) (l)),.c (.int (id))] [] ⟨[],[.c (.own 0)],some ([.row 46 (.nm .snap) ((aX id l))]),true⟩:=by
 refine eQ fH (qq l id) Try.func82 (by decide) (by kernel_rfl) ?_
 rw [wx]
 (repeat' (first | with_reducible refine And.intro ?_ ?_ | with_reducible refine and_imp.2 ?_ | intro))
 all_goals try (first | (first | with_reducible rfl | with_reducible assumption | omega | (refine aq ?_ ?_ <;> omega)) | exact rfl | exact (yT (by with_reducible assumption) (by with_reducible assumption) (by with_reducible assumption)) | exact (zA (by with_reducible assumption) (by with_reducible assumption)) | exact (sx (by omega)) | exact (sj (by omega) (by omega)))
 all_goals try (refine ⟨0,?_⟩; (repeat' (first | with_reducible refine And.intro ?_ ?_ | with_reducible refine and_imp.2 ?_ | intro)))
 all_goals try (first | (first | with_reducible rfl | with_reducible assumption | omega | (refine aq ?_ ?_ <;> omega)) | exact rfl | exact (yT (by with_reducible assumption) (by with_reducible assumption) (by with_reducible assumption)) | exact (zA (by with_reducible assumption) (by with_reducible assumption)) | exact (sx (by omega)) | exact (sj (by omega) (by omega)))
 all_goals try (refine ⟨‹Nat› + 1,?_⟩; (repeat' (first | with_reducible refine And.intro ?_ ?_ | with_reducible refine and_imp.2 ?_ | intro)))
 all_goals (first | (first | with_reducible rfl | with_reducible assumption | omega | (refine aq ?_ ?_ <;> omega)) | exact rfl | exact (yT (by with_reducible assumption) (by with_reducible assumption) (by with_reducible assumption)) | exact (zA (by with_reducible assumption) (by with_reducible assumption)) | exact (sx (by omega)) | exact (sj (by omega) (by omega)))
def uA:cY:=(bX 82 (bR (ak (kC (cL (.nm .snap))) (ak (kC cI) aU)) aR fun (l,id,_) (_)=>⟨[],[.c (.own 0)],some ([.row 46 (.nm .snap) ((aX id l))]),true⟩) (bX 79 (bR (ak (kC (cL (.nm .snap))) aU) aR fun (l,_) (_)=>⟨[nch l<=1048576],[.agg (jr .int ((bC l)) 0 65)],none,false⟩) (bX 102 (bR (ak (kC cI) (ak (kC (bL 0 0)) (ak (kC (bL 1 0)) aU))) (ay (oP 94 .int 65) (ay (oP 94 .int 65) aR)) fun (n,_,_,_) (xs,ys,_)=>⟨[0<=n/\n<65],[.c (.bool (.atom ((cV xs ys n))))],none,false⟩) (bX 101 (bR (ak (kC cI) (ak (kC (bL 0 0)) aU)) (ay (oP 94 .int 65) aR) fun (n,_,_) (xs,_)=>⟨[0<=n/\n<65],[.c (.bool (.atom ((cX xs n))))],none,false⟩) nR))))
theorem lp:bf Try.prog (av aL) uA:=(aC (aB (ae (aw bV) (ae (aw ax) ao)) al fun (l,id,_) (_) _=>vX l id ) (aC (aB (ae (aw bV) ao) al fun (l,_) (_) hp=>A_ l (eO hp)) (aC (aB (ae (aw ax) (ae (aw aJ) (ae (aw aJ) ao))) (ag fw (ag fw al)) fun (n,_,_,_) (xs,ys,_) hp=>ye n xs ys (eO hp)) (aC (aB (ae (aw ax) (ae (aw aJ) ao)) (ag fw al) fun (n,_,_) (xs,_) hp=>BO n xs (eO hp)) fH))))
end Go.Proofs.Ytmmbibcfkdabeaa
namespace Go.Proofs.Ytmmbibcfkdabeaa
open Go.RowKit
def rM (xs:List Int):List (Nat × LI):=[(3,{ σ:=Nat,F:=fun k=>([(0,one (.fn 101 [] [(0,0)])),(3,one (.own 1)),(4,one (.int (k+1)))],[.arr 94 .int 65 ((xs)),.row 3 .int ((fG (cX xs) k))]),J:=fun k=>k<=64,μ:=fun k=>64 - k })]
def qI (xs:List Int) (ys:List Int):List (Nat × LI):=[(3,{ σ:=Nat,F:=fun k=>([(0,one (.fn 102 [] [(0,0),(1,0)])),(3,one (.own 2)),(4,one (.int (k+1)))],[.arr 94 .int 65 ((xs)),.arr 94 .int 65 ((ys)),.row 3 .int ((fG (cV xs ys) k))]),J:=fun k=>k<=64,μ:=fun k=>64 - k })]
theorem vN (xs:List Int) (r0:List Int):du aL uA (rM xs) Try.f100 [.c (.fn 101 [] [(0,0)])] [.arr 94 .int 65 (xs)] [.c (.fz .int (r0))]=((fun (q1:Nat)=>(fun (q0:Int)=>∃ (s0:Nat),(q0=(↑s0:Int)+q0/\xs=xs/\fG (cX xs) s0=[])/\s0<=q1/\∀ (s:Nat),(fun (q3:List Int)=>(fun (q2:Int)=>s<=q1->(q2<=(64:Int)->((0:Int)<=q2/\q2<(65:Int))/\(cX xs q2=true->(q3.length+[q2].length)*(8:Nat)<=(140737488355328:Nat)/\I64 (q2+q0)/\∃ (s':Nat),(q2+q0=(↑s':Int)+q0/\xs=xs/\q3++[q2]=fG (cX xs) s')/\s' <= q1/\q1 - s' < q1 - s)/\(cX xs q2=false->I64 (q2+q0)/\∃ (s':Nat),(q2+q0=(↑s':Int)+q0/\xs=xs/\q3=fG (cX xs) s')/\s' <= q1/\q1 - s' < q1 - s))/\((64:Int)<q2->q3=r0)) ((↑s:Int)+q0)) (fG (cX xs) s)) (1:Int)) (64:Nat)):=by kernel_rfl
theorem vL (xs:List Int):Sat Try.prog (av aL) 100 [.c (.fn 101 [] [(0,0)])] [.arr 94 .int 65 (xs)] ⟨[],[.c (.fz .int ((fG (cX xs) 64)))],none,false⟩:=by
 refine aY lp (rM xs) Try.func100 (by decide) (by kernel_rfl) ?_
 rw [vN]
 (repeat' (first | with_reducible refine And.intro ?_ ?_ | with_reducible refine and_imp.2 ?_ | intro))
 all_goals try (first | (first | with_reducible rfl | with_reducible assumption | omega | (refine aq ?_ ?_ <;> omega)) | exact rfl | exact (vM (by with_reducible assumption)) | exact (vR (by with_reducible assumption)) | exact (vg (by omega) (by omega)) | exact (jf (by omega)) | exact (And.intro (by omega) (by omega)))
 all_goals try (refine ⟨0,?_⟩; (repeat' (first | with_reducible refine And.intro ?_ ?_ | with_reducible refine and_imp.2 ?_ | intro)))
 all_goals try (first | (first | with_reducible rfl | with_reducible assumption | omega | (refine aq ?_ ?_ <;> omega)) | exact rfl | exact (vM (by with_reducible assumption)) | exact (vR (by with_reducible assumption)) | exact (vg (by omega) (by omega)) | exact (jf (by omega)) | exact (And.intro (by omega) (by omega)))
 all_goals try (refine ⟨‹Nat› + 1,?_⟩; (repeat' (first | with_reducible refine And.intro ?_ ?_ | with_reducible refine and_imp.2 ?_ | intro)))
 all_goals (first | (first | with_reducible rfl | with_reducible assumption | omega | (refine aq ?_ ?_ <;> omega)) | exact rfl | exact (vM (by with_reducible assumption)) | exact (vR (by with_reducible assumption)) | exact (vg (by omega) (by omega)) | exact (jf (by omega)) | exact (And.intro (by omega) (by omega)))
theorem vf (xs:List Int) (ys:List Int) (r0:List Int):du aL uA (qI xs ys) Try.f100 [.c (.fn 102 [] [(0,0),(1,0)])] [.arr 94 .int 65 (xs),.arr 94 .int 65 (ys)] [.c (.fz .int (r0))]=((fun (q1:Nat)=>(fun (q0:Int)=>∃ (s0:Nat),(q0=(↑s0:Int)+q0/\xs=xs/\ys=ys/\fG (cV xs ys) s0=[])/\s0<=q1/\∀ (s:Nat),(fun (q3:List Int)=>(fun (q2:Int)=>s<=q1->(q2<=(64:Int)->((0:Int)<=q2/\q2<(65:Int))/\(cV xs ys q2=true->(q3.length+[q2].length)*(8:Nat)<=(140737488355328:Nat)/\I64 (q2+q0)/\∃ (s':Nat),(q2+q0=(↑s':Int)+q0/\xs=xs/\ys=ys/\q3++[q2]=fG (cV xs ys) s')/\s' <= q1/\q1 - s' < q1 - s)/\(cV xs ys q2=false->I64 (q2+q0)/\∃ (s':Nat),(q2+q0=(↑s':Int)+q0/\xs=xs/\ys=ys/\q3=fG (cV xs ys) s')/\s' <= q1/\q1 - s' < q1 - s))/\((64:Int)<q2->q3=r0)) ((↑s:Int)+q0)) (fG (cV xs ys) s)) (1:Int)) (64:Nat)):=by kernel_rfl
theorem vQ (xs:List Int) (ys:List Int):Sat Try.prog (av aL) 100 [.c (.fn 102 [] [(0,0),(1,0)])] [.arr 94 .int 65 (xs),.arr 94 .int 65 (ys)] ⟨[],[.c (.fz .int ((fG (cV xs ys) 64)))],none,false⟩:=by
 refine aY lp (qI xs ys) Try.func100 (by decide) (by kernel_rfl) ?_
 rw [vf]
 (repeat' (first | with_reducible refine And.intro ?_ ?_ | with_reducible refine and_imp.2 ?_ | intro))
 all_goals try (first | (first | with_reducible rfl | with_reducible assumption | omega | (refine aq ?_ ?_ <;> omega)) | exact rfl | exact (vM (by with_reducible assumption)) | exact (vR (by with_reducible assumption)) | exact (vg (by omega) (by omega)) | exact (jf (by omega)) | exact (And.intro (by omega) (by omega)))
 all_goals try (refine ⟨0,?_⟩; (repeat' (first | with_reducible refine And.intro ?_ ?_ | with_reducible refine and_imp.2 ?_ | intro)))
 all_goals try (first | (first | with_reducible rfl | with_reducible assumption | omega | (refine aq ?_ ?_ <;> omega)) | exact rfl | exact (vM (by with_reducible assumption)) | exact (vR (by with_reducible assumption)) | exact (vg (by omega) (by omega)) | exact (jf (by omega)) | exact (And.intro (by omega) (by omega)))
 all_goals try (refine ⟨‹Nat› + 1,?_⟩; (repeat' (first | with_reducible refine And.intro ?_ ?_ | with_reducible refine and_imp.2 ?_ | intro)))
 all_goals (first | (first | with_reducible rfl | with_reducible assumption | omega | (refine aq ?_ ?_ <;> omega)) | exact rfl | exact (vM (by with_reducible assumption)) | exact (vR (by with_reducible assumption)) | exact (vg (by omega) (by omega)) | exact (jf (by omega)) | exact (And.intro (by omega) (by omega)))
def tC:cY:=(bX 100 (bR (ak (kC (mN 102 [] [(0,0),(1,0)])) aU) (ay (oP 94 .int 65) (ay (oP 94 .int 65) aR)) fun (_,_) (xs,ys,_)=>⟨[],[.c (.fz .int ((fG (cV xs ys) 64)))],none,false⟩) (bX 100 (bR (ak (kC (mN 101 [] [(0,0)])) aU) (ay (oP 94 .int 65) aR) fun (_,_) (xs,_)=>⟨[],[.c (.fz .int ((fG (cX xs) 64)))],none,false⟩) uA))
theorem lN:bf Try.prog (av aL) tC:=(aC (aB (ae (aw ck) ao) (ag fw (ag fw al)) fun (_,_) (xs,ys,_) _=>vQ xs ys ) (aC (aB (ae (aw ck) ao) (ag fw al) fun (_,_) (xs,_) _=>vL xs ) lp))
end Go.Proofs.Ytmmbibcfkdabeaa
