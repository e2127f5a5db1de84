/- What is told of turnstone/turnstonelaw07.DtreeFirst, shown. -/
import Derived.Test.YtkepkjahbcddlaaTab
import Derived.Test.YtkepkjahbcddlaaFm1
import Derived.Test.YtkepkjahbcddlaaSyAwake2
namespace Go.Proofs.Ytkepkjahbcddlaa.Fn
open Go Go.RowKit Go.Proofs.Ytkepkjahbcddlaa.Sy
set_option linter.unusedVariables false
set_option linter.unusedSimpArgs false
set_option maxRecDepth 100000
open Go.Proofs.Ytkepkjahbcddlaa.Awake
def t3 : Tr :=
  .br (.f (.is (.lt (.n 60) (.len 0 1)) true) <|
   .ok [.tru (.le (.n 0) (.n 0))])
  (.f (.is (.lt (.n 60) (.len 0 1)) false) <|
   .br (.f (.rel 6 [.num (.v 0 0), .num (.v 0 2), .num (.v 0 3), .num (.v 0 4), .num (.v 0 5), .num (.v 0 6), .num (.v 0 7), .num (.v 0 8)] 65546 [.bool]) <|
    .br (.f (.is (.v 65546 0) false) <|
     .ok [.tru (.le (.n 0) (.n 0))])
    (.f (.is (.v 65546 0) true) <|
     .br (.f (.rel 100306 [.lst 0 1, .num (.v 0 0), .num (.n 0)] 65552 [.int .i64]) <|
      .br (.f (.is (.lt (.v 65552 0) (.len 0 1)) true) <|
       .br (.f (.is (.lt (.v 65552 0) (.n 0)) false) <|
        .br (.f (.rel 6 [.num (.v 0 0), .num (.at 0 1 (.v 65552 0) 0), .num (.at 0 1 (.v 65552 0) 1), .num (.at 0 1 (.v 65552 0) 2), .num (.at 0 1 (.v 65552 0) 3), .num (.at 0 1 (.v 65552 0) 4), .num (.at 0 1 (.v 65552 0) 5), .num (.at 0 1 (.v 65552 0) 6)] 65560 [.bool]) <|
         .br (.f (.is (.v 65560 0) false) <|
          .ok [.tru (.le (.n 0) (.n 0))])
         (.f (.is (.v 65560 0) true) <|
          .br (.f (.nrel 100306 [.lst 0 1, .num (.v 0 0), .num (.n 0)] [.num (.wrap .i64 (.bin .add (.v 65552 0) (.n 1)))]) <|
           .bad)
          (.f (.ndec 100306 [.lst 0 1, .num (.v 0 0), .num (.n 0)] [.num (.v 65552 0)] [.num (.wrap .i64 (.bin .add (.v 65552 0) (.n 1)))]) <|
           .bad)))
        (.f (.npre 6 [.num (.v 0 0), .num (.at 0 1 (.v 65552 0) 0), .num (.at 0 1 (.v 65552 0) 1), .num (.at 0 1 (.v 65552 0) 2), .num (.at 0 1 (.v 65552 0) 3), .num (.at 0 1 (.v 65552 0) 4), .num (.at 0 1 (.v 65552 0) 5), .num (.at 0 1 (.v 65552 0) 6)]) <|
         .bad))
       (.f (.is (.lt (.v 65552 0) (.n 0)) true) <|
        .bad))
      (.f (.is (.lt (.v 65552 0) (.len 0 1)) false) <|
       .br (.f (.rel 7 [.lst 0 1] 65555 [.obj 1]) <|
        .br (.f (.is (.nil 65555 0 []) true) <|
         .br (.f (.rel 11 [.obj (.at 65555 0 [])] 65570 [.list [.int .u64, .int .u32, .int .u32, .int .i64, .int .u64, .int .u32, .int .u32]]) <|
          .br (.f (.rel 100315 [.lst 65570 0, .num (.v 0 2), .num (.v 0 3), .num (.v 0 4), .num (.v 0 5), .num (.v 0 6), .num (.v 0 7), .num (.v 0 8), .tru (.lt (.n 0) (.n 0)), .num (.n 0)] 65573 [.bool, .int .i64]) <|
           .br (.f (.is (.lt (.v 65573 1) (.len 65570 0)) true) <|
            .br (.f (.is (.lt (.v 65573 1) (.n 0)) false) <|
             .br (.f (.rel 10 [.num (.at 65570 0 (.v 65573 1) 0), .num (.at 65570 0 (.v 65573 1) 1), .num (.at 65570 0 (.v 65573 1) 2), .num (.at 65570 0 (.v 65573 1) 3), .num (.at 65570 0 (.v 65573 1) 4), .num (.at 65570 0 (.v 65573 1) 5), .num (.at 65570 0 (.v 65573 1) 6), .num (.v 0 2), .num (.v 0 3), .num (.v 0 4), .num (.v 0 5), .num (.v 0 6), .num (.v 0 7), .num (.v 0 8)] 65581 [.bool]) <|
              .br (.f (.is (.v 65581 0) true) <|
               .br (.f (.rel 12 [.num (.at 65570 0 (.v 65573 1) 0), .num (.at 65570 0 (.v 65573 1) 1), .num (.at 65570 0 (.v 65573 1) 2), .num (.at 65570 0 (.v 65573 1) 3), .num (.at 65570 0 (.v 65573 1) 4), .num (.at 65570 0 (.v 65573 1) 5), .num (.at 65570 0 (.v 65573 1) 6), .num (.n 0), .num (.n 0), .num (.n 0), .num (.n 0), .num (.n 0), .num (.n 0), .num (.n 0)] 65586 [.bool]) <|
                .br (.f (.is (.v 65586 0) true) <|
                 .ok [.tru (.lt (.n 0) (.n 0))])
                (.f (.is (.v 65586 0) false) <|
                 .br (.f (.nrel 100315 [.lst 65570 0, .num (.v 0 2), .num (.v 0 3), .num (.v 0 4), .num (.v 0 5), .num (.v 0 6), .num (.v 0 7), .num (.v 0 8), .tru (.lt (.n 0) (.n 0)), .num (.n 0)] [.tru (.le (.n 0) (.n 0)), .num (.wrap .i64 (.bin .add (.v 65573 1) (.n 1)))]) <|
                  .bad)
                 (.f (.ndec 100315 [.lst 65570 0, .num (.v 0 2), .num (.v 0 3), .num (.v 0 4), .num (.v 0 5), .num (.v 0 6), .num (.v 0 7), .num (.v 0 8), .tru (.lt (.n 0) (.n 0)), .num (.n 0)] [.tru (.v 65573 0), .num (.v 65573 1)] [.tru (.le (.n 0) (.n 0)), .num (.wrap .i64 (.bin .add (.v 65573 1) (.n 1)))]) <|
                  .bad)))
               (.f (.npre 12 [.num (.at 65570 0 (.v 65573 1) 0), .num (.at 65570 0 (.v 65573 1) 1), .num (.at 65570 0 (.v 65573 1) 2), .num (.at 65570 0 (.v 65573 1) 3), .num (.at 65570 0 (.v 65573 1) 4), .num (.at 65570 0 (.v 65573 1) 5), .num (.at 65570 0 (.v 65573 1) 6), .num (.n 0), .num (.n 0), .num (.n 0), .num (.n 0), .num (.n 0), .num (.n 0), .num (.n 0)]) <|
                .bad))
              (.f (.is (.v 65581 0) false) <|
               .br (.f (.nrel 100315 [.lst 65570 0, .num (.v 0 2), .num (.v 0 3), .num (.v 0 4), .num (.v 0 5), .num (.v 0 6), .num (.v 0 7), .num (.v 0 8), .tru (.lt (.n 0) (.n 0)), .num (.n 0)] [.tru (.v 65573 0), .num (.wrap .i64 (.bin .add (.v 65573 1) (.n 1)))]) <|
                .bad)
               (.f (.ndec 100315 [.lst 65570 0, .num (.v 0 2), .num (.v 0 3), .num (.v 0 4), .num (.v 0 5), .num (.v 0 6), .num (.v 0 7), .num (.v 0 8), .tru (.lt (.n 0) (.n 0)), .num (.n 0)] [.tru (.v 65573 0), .num (.v 65573 1)] [.tru (.v 65573 0), .num (.wrap .i64 (.bin .add (.v 65573 1) (.n 1)))]) <|
                .bad)))
             (.f (.npre 10 [.num (.at 65570 0 (.v 65573 1) 0), .num (.at 65570 0 (.v 65573 1) 1), .num (.at 65570 0 (.v 65573 1) 2), .num (.at 65570 0 (.v 65573 1) 3), .num (.at 65570 0 (.v 65573 1) 4), .num (.at 65570 0 (.v 65573 1) 5), .num (.at 65570 0 (.v 65573 1) 6), .num (.v 0 2), .num (.v 0 3), .num (.v 0 4), .num (.v 0 5), .num (.v 0 6), .num (.v 0 7), .num (.v 0 8)]) <|
              .bad))
            (.f (.is (.lt (.v 65573 1) (.n 0)) true) <|
             .bad))
           (.f (.is (.lt (.v 65573 1) (.len 65570 0)) false) <|
            .br (.f (.is (.beq (.lt (.n 0) (.n 0)) (.v 65573 0)) true) <|
             .ok [.tru (.le (.n 0) (.n 0))])
            (.f (.is (.beq (.lt (.n 0) (.n 0)) (.v 65573 0)) false) <|
             .ok [.tru (.lt (.n 0) (.n 0))])))
          (.f (.nrel 100315 [.lst 65570 0, .num (.v 0 2), .num (.v 0 3), .num (.v 0 4), .num (.v 0 5), .num (.v 0 6), .num (.v 0 7), .num (.v 0 8), .tru (.lt (.n 0) (.n 0)), .num (.n 0)] [.tru (.lt (.n 0) (.n 0)), .num (.n 0)]) <|
           .bad))
         (.f (.npre 11 [.obj (.at 65555 0 [])]) <|
          .bad))
        (.f (.is (.nil 65555 0 []) false) <|
         .br (.f (.rel 10102907 [.num (.v 0 2), .num (.v 0 3), .num (.v 0 4), .num (.v 0 5), .num (.v 0 6), .num (.v 0 7), .num (.v 0 8), .obj (.at 65555 0 [false]), .tru (.lt (.n 0) (.n 0)), .num (.n 0), .num (.n 0), .num (.n 0), .num (.n 0), .num (.n 0), .num (.n 0), .num (.n 0)] 281578056318991 [.vw 0, .bool, .int .u64, .int .u32, .int .u32, .int .i64, .int .u64, .int .u32, .int .u32]) <|
          .br (.f (.is (.nil 281578056318991 0 []) true) <|
           .br (.f (.rel 11 [.obj (.at 65555 0 [])] 65570 [.list [.int .u64, .int .u32, .int .u32, .int .i64, .int .u64, .int .u32, .int .u32]]) <|
            .br (.f (.rel 100315 [.lst 65570 0, .num (.v 0 2), .num (.v 0 3), .num (.v 0 4), .num (.v 0 5), .num (.v 0 6), .num (.v 0 7), .num (.v 0 8), .tru (.lt (.n 0) (.n 0)), .num (.n 0)] 65573 [.bool, .int .i64]) <|
             .br (.f (.is (.lt (.v 65573 1) (.len 65570 0)) true) <|
              .br (.f (.is (.lt (.v 65573 1) (.n 0)) false) <|
               .br (.f (.rel 10 [.num (.at 65570 0 (.v 65573 1) 0), .num (.at 65570 0 (.v 65573 1) 1), .num (.at 65570 0 (.v 65573 1) 2), .num (.at 65570 0 (.v 65573 1) 3), .num (.at 65570 0 (.v 65573 1) 4), .num (.at 65570 0 (.v 65573 1) 5), .num (.at 65570 0 (.v 65573 1) 6), .num (.v 0 2), .num (.v 0 3), .num (.v 0 4), .num (.v 0 5), .num (.v 0 6), .num (.v 0 7), .num (.v 0 8)] 65581 [.bool]) <|
                .br (.f (.is (.v 65581 0) true) <|
                 .br (.f (.rel 12 [.num (.at 65570 0 (.v 65573 1) 0), .num (.at 65570 0 (.v 65573 1) 1), .num (.at 65570 0 (.v 65573 1) 2), .num (.at 65570 0 (.v 65573 1) 3), .num (.at 65570 0 (.v 65573 1) 4), .num (.at 65570 0 (.v 65573 1) 5), .num (.at 65570 0 (.v 65573 1) 6), .num (.v 281578056318991 2), .num (.v 281578056318991 3), .num (.v 281578056318991 4), .num (.v 281578056318991 5), .num (.v 281578056318991 6), .num (.v 281578056318991 7), .num (.v 281578056318991 8)] 65586 [.bool]) <|
                  .br (.f (.is (.v 65586 0) true) <|
                   .ok [.tru (.lt (.n 0) (.n 0))])
                  (.f (.is (.v 65586 0) false) <|
                   .br (.f (.nrel 100315 [.lst 65570 0, .num (.v 0 2), .num (.v 0 3), .num (.v 0 4), .num (.v 0 5), .num (.v 0 6), .num (.v 0 7), .num (.v 0 8), .tru (.lt (.n 0) (.n 0)), .num (.n 0)] [.tru (.le (.n 0) (.n 0)), .num (.wrap .i64 (.bin .add (.v 65573 1) (.n 1)))]) <|
                    .bad)
                   (.f (.ndec 100315 [.lst 65570 0, .num (.v 0 2), .num (.v 0 3), .num (.v 0 4), .num (.v 0 5), .num (.v 0 6), .num (.v 0 7), .num (.v 0 8), .tru (.lt (.n 0) (.n 0)), .num (.n 0)] [.tru (.v 65573 0), .num (.v 65573 1)] [.tru (.le (.n 0) (.n 0)), .num (.wrap .i64 (.bin .add (.v 65573 1) (.n 1)))]) <|
                    .bad)))
                 (.f (.npre 12 [.num (.at 65570 0 (.v 65573 1) 0), .num (.at 65570 0 (.v 65573 1) 1), .num (.at 65570 0 (.v 65573 1) 2), .num (.at 65570 0 (.v 65573 1) 3), .num (.at 65570 0 (.v 65573 1) 4), .num (.at 65570 0 (.v 65573 1) 5), .num (.at 65570 0 (.v 65573 1) 6), .num (.v 281578056318991 2), .num (.v 281578056318991 3), .num (.v 281578056318991 4), .num (.v 281578056318991 5), .num (.v 281578056318991 6), .num (.v 281578056318991 7), .num (.v 281578056318991 8)]) <|
                  .bad))
                (.f (.is (.v 65581 0) false) <|
                 .br (.f (.nrel 100315 [.lst 65570 0, .num (.v 0 2), .num (.v 0 3), .num (.v 0 4), .num (.v 0 5), .num (.v 0 6), .num (.v 0 7), .num (.v 0 8), .tru (.lt (.n 0) (.n 0)), .num (.n 0)] [.tru (.v 65573 0), .num (.wrap .i64 (.bin .add (.v 65573 1) (.n 1)))]) <|
                  .bad)
                 (.f (.ndec 100315 [.lst 65570 0, .num (.v 0 2), .num (.v 0 3), .num (.v 0 4), .num (.v 0 5), .num (.v 0 6), .num (.v 0 7), .num (.v 0 8), .tru (.lt (.n 0) (.n 0)), .num (.n 0)] [.tru (.v 65573 0), .num (.v 65573 1)] [.tru (.v 65573 0), .num (.wrap .i64 (.bin .add (.v 65573 1) (.n 1)))]) <|
                  .bad)))
               (.f (.npre 10 [.num (.at 65570 0 (.v 65573 1) 0), .num (.at 65570 0 (.v 65573 1) 1), .num (.at 65570 0 (.v 65573 1) 2), .num (.at 65570 0 (.v 65573 1) 3), .num (.at 65570 0 (.v 65573 1) 4), .num (.at 65570 0 (.v 65573 1) 5), .num (.at 65570 0 (.v 65573 1) 6), .num (.v 0 2), .num (.v 0 3), .num (.v 0 4), .num (.v 0 5), .num (.v 0 6), .num (.v 0 7), .num (.v 0 8)]) <|
                .bad))
              (.f (.is (.lt (.v 65573 1) (.n 0)) true) <|
               .bad))
             (.f (.is (.lt (.v 65573 1) (.len 65570 0)) false) <|
              .br (.f (.is (.beq (.v 281578056318991 1) (.v 65573 0)) true) <|
               .br (.f (.is (.v 281578056318991 1) false) <|
                .ok [.tru (.le (.n 0) (.n 0))])
               (.f (.is (.v 281578056318991 1) true) <|
                .br (.f (.rel 10 [.num (.v 281578056318991 2), .num (.v 281578056318991 3), .num (.v 281578056318991 4), .num (.v 281578056318991 5), .num (.v 281578056318991 6), .num (.v 281578056318991 7), .num (.v 281578056318991 8), .num (.v 0 2), .num (.v 0 3), .num (.v 0 4), .num (.v 0 5), .num (.v 0 6), .num (.v 0 7), .num (.v 0 8)] 65584 [.bool]) <|
                 .br (.f (.is (.v 65584 0) true) <|
                  .br (.f (.rel 11 [.obj (.at 65555 0 [])] 65588 [.list [.int .u64, .int .u32, .int .u32, .int .i64, .int .u64, .int .u32, .int .u32]]) <|
                   .f (.rel 13 [.lst 65588 0, .num (.v 281578056318991 2), .num (.v 281578056318991 3), .num (.v 281578056318991 4), .num (.v 281578056318991 5), .num (.v 281578056318991 6), .num (.v 281578056318991 7), .num (.v 281578056318991 8)] 65590 [.bool]) <|
                    .ok [.tru (.v 65590 0)])
                  (.f (.npre 11 [.obj (.at 65555 0 [])]) <|
                   .bad))
                 (.f (.is (.v 65584 0) false) <|
                  .ok [.tru (.lt (.n 0) (.n 0))]))
                (.f (.npre 10 [.num (.v 281578056318991 2), .num (.v 281578056318991 3), .num (.v 281578056318991 4), .num (.v 281578056318991 5), .num (.v 281578056318991 6), .num (.v 281578056318991 7), .num (.v 281578056318991 8), .num (.v 0 2), .num (.v 0 3), .num (.v 0 4), .num (.v 0 5), .num (.v 0 6), .num (.v 0 7), .num (.v 0 8)]) <|
                 .bad)))
              (.f (.is (.beq (.v 281578056318991 1) (.v 65573 0)) false) <|
               .ok [.tru (.lt (.n 0) (.n 0))])))
            (.f (.nrel 100315 [.lst 65570 0, .num (.v 0 2), .num (.v 0 3), .num (.v 0 4), .num (.v 0 5), .num (.v 0 6), .num (.v 0 7), .num (.v 0 8), .tru (.lt (.n 0) (.n 0)), .num (.n 0)] [.tru (.lt (.n 0) (.n 0)), .num (.n 0)]) <|
             .bad))
           (.f (.npre 11 [.obj (.at 65555 0 [])]) <|
            .bad))
          (.f (.is (.nil 281578056318991 0 []) false) <|
           .br (.f (.npre 10 [.num (.fld 281578056318991 0 [] 0), .num (.fld 281578056318991 0 [] 1), .num (.fld 281578056318991 0 [] 2), .num (.fld 281578056318991 0 [] 3), .num (.fld 281578056318991 0 [] 4), .num (.fld 281578056318991 0 [] 5), .num (.fld 281578056318991 0 [] 6), .num (.v 0 2), .num (.v 0 3), .num (.v 0 4), .num (.v 0 5), .num (.v 0 6), .num (.v 0 7), .num (.v 0 8)]) <|
            .bad)
           (.f (.rel 10 [.num (.fld 281578056318991 0 [] 0), .num (.fld 281578056318991 0 [] 1), .num (.fld 281578056318991 0 [] 2), .num (.fld 281578056318991 0 [] 3), .num (.fld 281578056318991 0 [] 4), .num (.fld 281578056318991 0 [] 5), .num (.fld 281578056318991 0 [] 6), .num (.v 0 2), .num (.v 0 3), .num (.v 0 4), .num (.v 0 5), .num (.v 0 6), .num (.v 0 7), .num (.v 0 8)] 18453499498921918468 [.bool]) <|
            .br (.f (.is (.v 18453499498921918468 0) true) <|
             .br (.f (.is (.nil 281578056318991 0 [false]) false) <|
              .br (.f (.is (.v 281578056318991 1) true) <|
               .br (.f (.npre 27 [.num (.v 281578056318991 2), .num (.v 281578056318991 3), .num (.v 281578056318991 4), .num (.v 281578056318991 5), .num (.v 281578056318991 6), .num (.v 281578056318991 7), .num (.v 281578056318991 8), .num (.fld 281578056318991 0 [false] 7), .num (.fld 281578056318991 0 [false] 8), .num (.fld 281578056318991 0 [false] 9), .num (.fld 281578056318991 0 [false] 10), .num (.fld 281578056318991 0 [false] 11), .num (.fld 281578056318991 0 [false] 12), .num (.fld 281578056318991 0 [false] 13)]) <|
                .bad)
               (.f (.rel 27 [.num (.v 281578056318991 2), .num (.v 281578056318991 3), .num (.v 281578056318991 4), .num (.v 281578056318991 5), .num (.v 281578056318991 6), .num (.v 281578056318991 7), .num (.v 281578056318991 8), .num (.fld 281578056318991 0 [false] 7), .num (.fld 281578056318991 0 [false] 8), .num (.fld 281578056318991 0 [false] 9), .num (.fld 281578056318991 0 [false] 10), .num (.fld 281578056318991 0 [false] 11), .num (.fld 281578056318991 0 [false] 12), .num (.fld 281578056318991 0 [false] 13)] 18453499498922901512 [.int .u64, .int .u32, .int .u32, .int .i64, .int .u64, .int .u32, .int .u32]) <|
                .f (.rel 26 [.num (.fld 281578056318991 0 [] 0), .num (.fld 281578056318991 0 [] 1), .num (.fld 281578056318991 0 [] 2), .num (.fld 281578056318991 0 [] 3), .num (.fld 281578056318991 0 [] 4), .num (.fld 281578056318991 0 [] 5), .num (.fld 281578056318991 0 [] 6)] 281578056319024 [.int .u64, .int .u32, .int .u32, .int .i64, .int .u64, .int .u32, .int .u32]) <|
                 .br (.f (.npre 27 [.num (.v 18453499498922901512 0), .num (.v 18453499498922901512 1), .num (.v 18453499498922901512 2), .num (.v 18453499498922901512 3), .num (.v 18453499498922901512 4), .num (.v 18453499498922901512 5), .num (.v 18453499498922901512 6), .num (.v 281578056319024 0), .num (.v 281578056319024 1), .num (.v 281578056319024 2), .num (.v 281578056319024 3), .num (.v 281578056319024 4), .num (.v 281578056319024 5), .num (.v 281578056319024 6)]) <|
                  .bad)
                 (.f (.rel 27 [.num (.v 18453499498922901512 0), .num (.v 18453499498922901512 1), .num (.v 18453499498922901512 2), .num (.v 18453499498922901512 3), .num (.v 18453499498922901512 4), .num (.v 18453499498922901512 5), .num (.v 18453499498922901512 6), .num (.v 281578056319024 0), .num (.v 281578056319024 1), .num (.v 281578056319024 2), .num (.v 281578056319024 3), .num (.v 281578056319024 4), .num (.v 281578056319024 5), .num (.v 281578056319024 6)] 18453499498923622408 [.int .u64, .int .u32, .int .u32, .int .i64, .int .u64, .int .u32, .int .u32]) <|
                  .br (.f (.nrel 10102907 [.num (.v 0 2), .num (.v 0 3), .num (.v 0 4), .num (.v 0 5), .num (.v 0 6), .num (.v 0 7), .num (.v 0 8), .obj (.at 65555 0 [false]), .tru (.lt (.n 0) (.n 0)), .num (.n 0), .num (.n 0), .num (.n 0), .num (.n 0), .num (.n 0), .num (.n 0), .num (.n 0)] [.obj (.at 281578056318991 0 [true]), .tru (.le (.n 0) (.n 0)), .num (.v 18453499498923622408 0), .num (.v 18453499498923622408 1), .num (.v 18453499498923622408 2), .num (.v 18453499498923622408 3), .num (.v 18453499498923622408 4), .num (.v 18453499498923622408 5), .num (.v 18453499498923622408 6)]) <|
                   .bad)
                  (.f (.ndec 10102907 [.num (.v 0 2), .num (.v 0 3), .num (.v 0 4), .num (.v 0 5), .num (.v 0 6), .num (.v 0 7), .num (.v 0 8), .obj (.at 65555 0 [false]), .tru (.lt (.n 0) (.n 0)), .num (.n 0), .num (.n 0), .num (.n 0), .num (.n 0), .num (.n 0), .num (.n 0), .num (.n 0)] [.obj (.at 281578056318991 0 []), .tru (.v 281578056318991 1), .num (.v 281578056318991 2), .num (.v 281578056318991 3), .num (.v 281578056318991 4), .num (.v 281578056318991 5), .num (.v 281578056318991 6), .num (.v 281578056318991 7), .num (.v 281578056318991 8)] [.obj (.at 281578056318991 0 [true]), .tru (.le (.n 0) (.n 0)), .num (.v 18453499498923622408 0), .num (.v 18453499498923622408 1), .num (.v 18453499498923622408 2), .num (.v 18453499498923622408 3), .num (.v 18453499498923622408 4), .num (.v 18453499498923622408 5), .num (.v 18453499498923622408 6)]) <|
                   .bad))))
              (.f (.is (.v 281578056318991 1) false) <|
               .f (.rel 26 [.num (.fld 281578056318991 0 [] 0), .num (.fld 281578056318991 0 [] 1), .num (.fld 281578056318991 0 [] 2), .num (.fld 281578056318991 0 [] 3), .num (.fld 281578056318991 0 [] 4), .num (.fld 281578056318991 0 [] 5), .num (.fld 281578056318991 0 [] 6)] 281578056319024 [.int .u64, .int .u32, .int .u32, .int .i64, .int .u64, .int .u32, .int .u32]) <|
                .br (.f (.npre 27 [.num (.fld 281578056318991 0 [false] 7), .num (.fld 281578056318991 0 [false] 8), .num (.fld 281578056318991 0 [false] 9), .num (.fld 281578056318991 0 [false] 10), .num (.fld 281578056318991 0 [false] 11), .num (.fld 281578056318991 0 [false] 12), .num (.fld 281578056318991 0 [false] 13), .num (.v 281578056319024 0), .num (.v 281578056319024 1), .num (.v 281578056319024 2), .num (.v 281578056319024 3), .num (.v 281578056319024 4), .num (.v 281578056319024 5), .num (.v 281578056319024 6)]) <|
                 .bad)
                (.f (.rel 27 [.num (.fld 281578056318991 0 [false] 7), .num (.fld 281578056318991 0 [false] 8), .num (.fld 281578056318991 0 [false] 9), .num (.fld 281578056318991 0 [false] 10), .num (.fld 281578056318991 0 [false] 11), .num (.fld 281578056318991 0 [false] 12), .num (.fld 281578056318991 0 [false] 13), .num (.v 281578056319024 0), .num (.v 281578056319024 1), .num (.v 281578056319024 2), .num (.v 281578056319024 3), .num (.v 281578056319024 4), .num (.v 281578056319024 5), .num (.v 281578056319024 6)] 18453499498923622408 [.int .u64, .int .u32, .int .u32, .int .i64, .int .u64, .int .u32, .int .u32]) <|
                 .br (.f (.nrel 10102907 [.num (.v 0 2), .num (.v 0 3), .num (.v 0 4), .num (.v 0 5), .num (.v 0 6), .num (.v 0 7), .num (.v 0 8), .obj (.at 65555 0 [false]), .tru (.lt (.n 0) (.n 0)), .num (.n 0), .num (.n 0), .num (.n 0), .num (.n 0), .num (.n 0), .num (.n 0), .num (.n 0)] [.obj (.at 281578056318991 0 [true]), .tru (.le (.n 0) (.n 0)), .num (.v 18453499498923622408 0), .num (.v 18453499498923622408 1), .num (.v 18453499498923622408 2), .num (.v 18453499498923622408 3), .num (.v 18453499498923622408 4), .num (.v 18453499498923622408 5), .num (.v 18453499498923622408 6)]) <|
                  .bad)
                 (.f (.ndec 10102907 [.num (.v 0 2), .num (.v 0 3), .num (.v 0 4), .num (.v 0 5), .num (.v 0 6), .num (.v 0 7), .num (.v 0 8), .obj (.at 65555 0 [false]), .tru (.lt (.n 0) (.n 0)), .num (.n 0), .num (.n 0), .num (.n 0), .num (.n 0), .num (.n 0), .num (.n 0), .num (.n 0)] [.obj (.at 281578056318991 0 []), .tru (.v 281578056318991 1), .num (.v 281578056318991 2), .num (.v 281578056318991 3), .num (.v 281578056318991 4), .num (.v 281578056318991 5), .num (.v 281578056318991 6), .num (.v 281578056318991 7), .num (.v 281578056318991 8)] [.obj (.at 281578056318991 0 [true]), .tru (.le (.n 0) (.n 0)), .num (.v 18453499498923622408 0), .num (.v 18453499498923622408 1), .num (.v 18453499498923622408 2), .num (.v 18453499498923622408 3), .num (.v 18453499498923622408 4), .num (.v 18453499498923622408 5), .num (.v 18453499498923622408 6)]) <|
                  .bad))))
             (.f (.is (.nil 281578056318991 0 [false]) true) <|
              .f (.rel 26 [.num (.fld 281578056318991 0 [] 0), .num (.fld 281578056318991 0 [] 1), .num (.fld 281578056318991 0 [] 2), .num (.fld 281578056318991 0 [] 3), .num (.fld 281578056318991 0 [] 4), .num (.fld 281578056318991 0 [] 5), .num (.fld 281578056318991 0 [] 6)] 281578056319015 [.int .u64, .int .u32, .int .u32, .int .i64, .int .u64, .int .u32, .int .u32]) <|
               .br (.f (.is (.v 281578056318991 1) true) <|
                .br (.f (.npre 27 [.num (.v 281578056318991 2), .num (.v 281578056318991 3), .num (.v 281578056318991 4), .num (.v 281578056318991 5), .num (.v 281578056318991 6), .num (.v 281578056318991 7), .num (.v 281578056318991 8), .num (.v 281578056319015 0), .num (.v 281578056319015 1), .num (.v 281578056319015 2), .num (.v 281578056319015 3), .num (.v 281578056319015 4), .num (.v 281578056319015 5), .num (.v 281578056319015 6)]) <|
                 .bad)
                (.f (.rel 27 [.num (.v 281578056318991 2), .num (.v 281578056318991 3), .num (.v 281578056318991 4), .num (.v 281578056318991 5), .num (.v 281578056318991 6), .num (.v 281578056318991 7), .num (.v 281578056318991 8), .num (.v 281578056319015 0), .num (.v 281578056319015 1), .num (.v 281578056319015 2), .num (.v 281578056319015 3), .num (.v 281578056319015 4), .num (.v 281578056319015 5), .num (.v 281578056319015 6)] 18453499498923032584 [.int .u64, .int .u32, .int .u32, .int .i64, .int .u64, .int .u32, .int .u32]) <|
                 .br (.f (.nrel 10102907 [.num (.v 0 2), .num (.v 0 3), .num (.v 0 4), .num (.v 0 5), .num (.v 0 6), .num (.v 0 7), .num (.v 0 8), .obj (.at 65555 0 [false]), .tru (.lt (.n 0) (.n 0)), .num (.n 0), .num (.n 0), .num (.n 0), .num (.n 0), .num (.n 0), .num (.n 0), .num (.n 0)] [.obj (.at 281578056318991 0 [true]), .tru (.le (.n 0) (.n 0)), .num (.v 18453499498923032584 0), .num (.v 18453499498923032584 1), .num (.v 18453499498923032584 2), .num (.v 18453499498923032584 3), .num (.v 18453499498923032584 4), .num (.v 18453499498923032584 5), .num (.v 18453499498923032584 6)]) <|
                  .bad)
                 (.f (.ndec 10102907 [.num (.v 0 2), .num (.v 0 3), .num (.v 0 4), .num (.v 0 5), .num (.v 0 6), .num (.v 0 7), .num (.v 0 8), .obj (.at 65555 0 [false]), .tru (.lt (.n 0) (.n 0)), .num (.n 0), .num (.n 0), .num (.n 0), .num (.n 0), .num (.n 0), .num (.n 0), .num (.n 0)] [.obj (.at 281578056318991 0 []), .tru (.v 281578056318991 1), .num (.v 281578056318991 2), .num (.v 281578056318991 3), .num (.v 281578056318991 4), .num (.v 281578056318991 5), .num (.v 281578056318991 6), .num (.v 281578056318991 7), .num (.v 281578056318991 8)] [.obj (.at 281578056318991 0 [true]), .tru (.le (.n 0) (.n 0)), .num (.v 18453499498923032584 0), .num (.v 18453499498923032584 1), .num (.v 18453499498923032584 2), .num (.v 18453499498923032584 3), .num (.v 18453499498923032584 4), .num (.v 18453499498923032584 5), .num (.v 18453499498923032584 6)]) <|
                  .bad)))
               (.f (.is (.v 281578056318991 1) false) <|
                .br (.f (.nrel 10102907 [.num (.v 0 2), .num (.v 0 3), .num (.v 0 4), .num (.v 0 5), .num (.v 0 6), .num (.v 0 7), .num (.v 0 8), .obj (.at 65555 0 [false]), .tru (.lt (.n 0) (.n 0)), .num (.n 0), .num (.n 0), .num (.n 0), .num (.n 0), .num (.n 0), .num (.n 0), .num (.n 0)] [.obj (.at 281578056318991 0 [true]), .tru (.le (.n 0) (.n 0)), .num (.v 281578056319015 0), .num (.v 281578056319015 1), .num (.v 281578056319015 2), .num (.v 281578056319015 3), .num (.v 281578056319015 4), .num (.v 281578056319015 5), .num (.v 281578056319015 6)]) <|
                 .bad)
                (.f (.ndec 10102907 [.num (.v 0 2), .num (.v 0 3), .num (.v 0 4), .num (.v 0 5), .num (.v 0 6), .num (.v 0 7), .num (.v 0 8), .obj (.at 65555 0 [false]), .tru (.lt (.n 0) (.n 0)), .num (.n 0), .num (.n 0), .num (.n 0), .num (.n 0), .num (.n 0), .num (.n 0), .num (.n 0)] [.obj (.at 281578056318991 0 []), .tru (.v 281578056318991 1), .num (.v 281578056318991 2), .num (.v 281578056318991 3), .num (.v 281578056318991 4), .num (.v 281578056318991 5), .num (.v 281578056318991 6), .num (.v 281578056318991 7), .num (.v 281578056318991 8)] [.obj (.at 281578056318991 0 [true]), .tru (.le (.n 0) (.n 0)), .num (.v 281578056319015 0), .num (.v 281578056319015 1), .num (.v 281578056319015 2), .num (.v 281578056319015 3), .num (.v 281578056319015 4), .num (.v 281578056319015 5), .num (.v 281578056319015 6)]) <|
                 .bad))))
            (.f (.is (.v 18453499498921918468 0) false) <|
             .br (.f (.nrel 10102907 [.num (.v 0 2), .num (.v 0 3), .num (.v 0 4), .num (.v 0 5), .num (.v 0 6), .num (.v 0 7), .num (.v 0 8), .obj (.at 65555 0 [false]), .tru (.lt (.n 0) (.n 0)), .num (.n 0), .num (.n 0), .num (.n 0), .num (.n 0), .num (.n 0), .num (.n 0), .num (.n 0)] [.obj (.at 281578056318991 0 [false]), .tru (.v 281578056318991 1), .num (.v 281578056318991 2), .num (.v 281578056318991 3), .num (.v 281578056318991 4), .num (.v 281578056318991 5), .num (.v 281578056318991 6), .num (.v 281578056318991 7), .num (.v 281578056318991 8)]) <|
              .bad)
             (.f (.ndec 10102907 [.num (.v 0 2), .num (.v 0 3), .num (.v 0 4), .num (.v 0 5), .num (.v 0 6), .num (.v 0 7), .num (.v 0 8), .obj (.at 65555 0 [false]), .tru (.lt (.n 0) (.n 0)), .num (.n 0), .num (.n 0), .num (.n 0), .num (.n 0), .num (.n 0), .num (.n 0), .num (.n 0)] [.obj (.at 281578056318991 0 []), .tru (.v 281578056318991 1), .num (.v 281578056318991 2), .num (.v 281578056318991 3), .num (.v 281578056318991 4), .num (.v 281578056318991 5), .num (.v 281578056318991 6), .num (.v 281578056318991 7), .num (.v 281578056318991 8)] [.obj (.at 281578056318991 0 [false]), .tru (.v 281578056318991 1), .num (.v 281578056318991 2), .num (.v 281578056318991 3), .num (.v 281578056318991 4), .num (.v 281578056318991 5), .num (.v 281578056318991 6), .num (.v 281578056318991 7), .num (.v 281578056318991 8)]) <|
              .bad)))))
         (.f (.nrel 10102907 [.num (.v 0 2), .num (.v 0 3), .num (.v 0 4), .num (.v 0 5), .num (.v 0 6), .num (.v 0 7), .num (.v 0 8), .obj (.at 65555 0 [false]), .tru (.lt (.n 0) (.n 0)), .num (.n 0), .num (.n 0), .num (.n 0), .num (.n 0), .num (.n 0), .num (.n 0), .num (.n 0)] [.obj (.at 65555 0 [false]), .tru (.lt (.n 0) (.n 0)), .num (.n 0), .num (.n 0), .num (.n 0), .num (.n 0), .num (.n 0), .num (.n 0), .num (.n 0)]) <|
          .bad)))
       (.f (.npre 7 [.lst 0 1]) <|
        .bad)))
     (.f (.nrel 100306 [.lst 0 1, .num (.v 0 0), .num (.n 0)] [.num (.n 0)]) <|
      .bad)))
   (.f (.npre 6 [.num (.v 0 0), .num (.v 0 2), .num (.v 0 3), .num (.v 0 4), .num (.v 0 5), .num (.v 0 6), .num (.v 0 7), .num (.v 0 8)]) <|
    .bad))
theorem c3 : ConS Try.prog T C3 := con_tr (cs := [C6, C7, C10, C11, C12, C13, C26, C27]) (lcs := [L100306, L100315, L10102907]) (known := [5, 22, 35, 21, 34, 44, 54, 70, 76, 69, 75, 88, 94]) (cons_cons c6 (cons_cons c7 (cons_cons c10 (cons_cons c11 (cons_cons c12 (cons_cons c13 (cons_cons c26 (cons_cons c27 (cons_nil _ _))))))))) known5 (N := 400) (d := 40) (t := t3) (by kernel_rfl) <| by
  intro E hl hp
  have hl1 := hl 1 _ rfl
  clear hl
  have hp := hp rfl
  simp only [C3, show T.pre 3 = Q3 from rfl, flatS, SP.flat, dvs, List.append_nil, List.cons_append, List.nil_append, Q3, U64, U32, I64, Big, W, wv, s64, WT, PR, MR, MB] at hp
  simp only [t3, C3, Tr.good, Fact.den, DE.den, Dat.sub, LX.den, DX.ls, DV.ls, DX.den, Bx.den, Ex.den, eo_add, eo_sub, eo_mul, eo_quo, eo_rem, eo_fdv, eo_mn, eo_mx, eo_land, eo_lor, eo_lxor, eo_landn, eo_shl, eo_shr, dvs, flatS, SP.flat, ST.flat, List.map_cons, List.map_nil, List.append_nil, List.cons_append, List.nil_append, ltb_t, ltb_f, leb_t, leb_f, eqb_t, eqb_f, decide_eq_true_eq, decide_eq_false_iff_not, Bool.not_eq_true', Bool.not_eq_false', Bool.and_eq_true, Bool.and_eq_false_imp, beq_iff_eq, beq_eq_false_iff_ne, bne_iff_ne, U64, U32, I64, Big, W, wv, Told, s64, WT, PR, MR, MB, Int.zero_mul, Int.zero_add, Int.add_zero, Int.mul_zero, IntKind.wrap_u64, IntKind.wrap_i64, IntKind.wrap_u32, ne_eq, forall_const, true_implies, show T.rel 3 = R3 from rfl, R3, show T.rel 6 = R6 from rfl, R6, show T.rel 7 = R7 from rfl, R7, show T.rel 10 = R10 from rfl, R10, show T.rel 11 = R11 from rfl, R11, show T.rel 12 = R12 from rfl, R12, show T.rel 13 = R13 from rfl, R13, show T.rel 26 = R26 from rfl, R26, show T.rel 27 = R27 from rfl, R27, show T.rel 100306 = R100306 from rfl, R100306, show T.rel 100315 = R100315 from rfl, R100315, show T.rel 10102907 = R10102907 from rfl, R10102907, show T.mu 100306 = M100306 from rfl, M100306, show T.mu 100315 = M100315 from rfl, M100315, show T.mu 10102907 = M10102907 from rfl, M10102907, show T.pre 3 = Q3 from rfl, Q3, show T.pre 6 = Q6 from rfl, Q6, show T.pre 7 = Q7 from rfl, Q7, show T.pre 10 = Q10 from rfl, Q10, show T.pre 11 = Q11 from rfl, Q11, show T.pre 12 = Q12 from rfl, Q12, show T.pre 27 = Q27 from rfl, Q27]
  revert hp hl1
  generalize (E.r 0).i 0 = at_
  generalize (E.r 0).l 1 = xs
  generalize (E.r 0).i 2 = e0
  generalize (E.r 0).i 3 = e1
  generalize (E.r 0).i 4 = e2
  generalize (E.r 0).i 5 = e3
  generalize (E.r 0).i 6 = e4
  generalize (E.r 0).i 7 = e5
  generalize (E.r 0).i 8 = e6
  generalize (E.r 65546).c 0 = x10_0
  generalize (E.r 65552).i 0 = x16_0
  generalize (E.r 65555).t 0 = x19_0
  generalize (E.r 65560).c 0 = x24_0
  generalize (E.r 65570).l 0 = x34_0
  generalize (E.r 65573).c 0 = x37_0
  generalize (E.r 65573).i 1 = x37_1
  generalize (E.r 65581).c 0 = x45_0
  generalize (E.r 65584).c 0 = x48_0
  generalize (E.r 65586).c 0 = x50_0
  generalize (E.r 65588).l 0 = x52_0
  generalize (E.r 65590).c 0 = x54_0
  generalize (E.r 281578056318991).t 0 = x281578056253455_0
  generalize (E.r 281578056318991).c 1 = x281578056253455_1
  generalize (E.r 281578056318991).i 2 = x281578056253455_2
  generalize (E.r 281578056318991).i 3 = x281578056253455_3
  generalize (E.r 281578056318991).i 4 = x281578056253455_4
  generalize (E.r 281578056318991).i 5 = x281578056253455_5
  generalize (E.r 281578056318991).i 6 = x281578056253455_6
  generalize (E.r 281578056318991).i 7 = x281578056253455_7
  generalize (E.r 281578056318991).i 8 = x281578056253455_8
  generalize (E.r 281578056319015).i 0 = x281578056253479_0
  generalize (E.r 281578056319015).i 1 = x281578056253479_1
  generalize (E.r 281578056319015).i 2 = x281578056253479_2
  generalize (E.r 281578056319015).i 3 = x281578056253479_3
  generalize (E.r 281578056319015).i 4 = x281578056253479_4
  generalize (E.r 281578056319015).i 5 = x281578056253479_5
  generalize (E.r 281578056319015).i 6 = x281578056253479_6
  generalize (E.r 281578056319024).i 0 = x281578056253488_0
  generalize (E.r 281578056319024).i 1 = x281578056253488_1
  generalize (E.r 281578056319024).i 2 = x281578056253488_2
  generalize (E.r 281578056319024).i 3 = x281578056253488_3
  generalize (E.r 281578056319024).i 4 = x281578056253488_4
  generalize (E.r 281578056319024).i 5 = x281578056253488_5
  generalize (E.r 281578056319024).i 6 = x281578056253488_6
  generalize (E.r 18453499498921918468).c 0 = x18453499498921852932_0
  generalize (E.r 18453499498922901512).i 0 = x18453499498922835976_0
  generalize (E.r 18453499498922901512).i 1 = x18453499498922835976_1
  generalize (E.r 18453499498922901512).i 2 = x18453499498922835976_2
  generalize (E.r 18453499498922901512).i 3 = x18453499498922835976_3
  generalize (E.r 18453499498922901512).i 4 = x18453499498922835976_4
  generalize (E.r 18453499498922901512).i 5 = x18453499498922835976_5
  generalize (E.r 18453499498922901512).i 6 = x18453499498922835976_6
  generalize (E.r 18453499498923032584).i 0 = x18453499498922967048_0
  generalize (E.r 18453499498923032584).i 1 = x18453499498922967048_1
  generalize (E.r 18453499498923032584).i 2 = x18453499498922967048_2
  generalize (E.r 18453499498923032584).i 3 = x18453499498922967048_3
  generalize (E.r 18453499498923032584).i 4 = x18453499498922967048_4
  generalize (E.r 18453499498923032584).i 5 = x18453499498922967048_5
  generalize (E.r 18453499498923032584).i 6 = x18453499498922967048_6
  generalize (E.r 18453499498923622408).i 0 = x18453499498923556872_0
  generalize (E.r 18453499498923622408).i 1 = x18453499498923556872_1
  generalize (E.r 18453499498923622408).i 2 = x18453499498923556872_2
  generalize (E.r 18453499498923622408).i 3 = x18453499498923556872_3
  generalize (E.r 18453499498923622408).i 4 = x18453499498923556872_4
  generalize (E.r 18453499498923622408).i 5 = x18453499498923556872_5
  generalize (E.r 18453499498923622408).i 6 = x18453499498923556872_6
  try simp only [mxI, mnI]
  try simp only [ltb, leb, eqb, Int.lt_irrefl, decide_false, Int.le_refl, decide_true]
  intro hl hp
  obtain ⟨h0, hri, hke⟩ := hp
  refine ⟨fun _ => trivial, fun h60 => ⟨fun hn => ⟨fun _ => trivial, fun hx => ⟨fun ⟨i0, i1, inv⟩ => ⟨fun c => ⟨fun i0' => ⟨fun hb => ⟨fun _ => trivial, fun hxb => ⟨fun n => n ⟨?_, ?_, ?_⟩, fun n => n ?_⟩⟩, fun n => n ⟨h0, ?_⟩⟩, fun h => by omega⟩, fun c => ⟨fun ⟨ti, et⟩ => ⟨fun lf => absurd lf (by rw [ti.1]; decide), fun _ => ⟨?_, fun n => n ⟨ti.2.1, K7_mk.2 (by decide), trivial⟩⟩⟩, fun n => n ⟨hri, by omega⟩⟩⟩, fun n => n ⟨trivial, by omega, fun k hk => absurd hk (Nat.not_lt_zero _)⟩⟩⟩, fun n => n ⟨h0, hke⟩⟩⟩
  · omega
  · omega
  · exact st_all i0 c (by omega) inv (NI_rj i0 (hb hxb))
  · omega
  · exact K7_rj i0 (RI_K7 hri _)
  have NX := NI_all (b := at_) (L := xs) fun k hk => inv k (by omega)
  have ok : (sh (x19_0.kid false)).OK at_ := by rw [et]; exact OK_putL xs (ItT.OK_E _) NX
  have ne := hn hx
  have FE := fold_end ok ne
  have kT : (sh (x19_0.kid false)).K := ti.2.1
  have sz : (sh (x19_0.kid false)).ord.length ≤ 60 := by
    rw [ItT.ord_size, et]
    have := size_putL xs ItT.E
    have z : ItT.size .E = 0 := rfl
    omega
  have sz2 : (sh (x19_0.kid false)).size ≤ 1000000 := by rw [← ItT.ord_size]; omega
  have z0 : ItT.foldP (fun x => AHR x [e0, e1, e2, e3, e4, e5, e6]) (OP false [0, 0, 0, 0, 0, 0, 0]) (sh (x19_0.kid false)) = LM ((sh (x19_0.kid false)).ord.filter fun x => decide (AHR x [e0, e1, e2, e3, e4, e5, e6])) := FE
  rw [z0]
  generalize sh (x19_0.kid false) = T0 at *
  clear NX hl et ti
  obtain ⟨_, f1, f2, _, f5, f6⟩ := K7_mk.1 hke
  rintro ⟨kz, ka, fz⟩
  refine ⟨fun lf => ⟨?_, fun n => n sz2⟩, fun lf => ?_⟩
  · rw [fs_leaf lf] at fz
    rintro rfl
    obtain ⟨_, g1, g2, _, g5, g6⟩ := K7_mk.1 ka
    refine ⟨fun ⟨j0, j1, inv⟩ => ⟨fun c => ⟨fun _ => ?_, fun h => by omega⟩, fun c => ?_⟩, fun n => n ⟨trivial, by omega, no_row⟩⟩
    · have kr := K_row kT (k := x37_1.toNat) (by omega)
      obtain ⟨_, r1, r2, _, r5, r6⟩ := K7_mk.1 (K7_rj j0 kr)
      refine ⟨fun hA => ⟨fun hy => ⟨fun hD => ⟨fun hz => ?_, fun _ => ⟨fun n => n ⟨by omega, by omega, ?_⟩, fun n => n (by omega)⟩⟩, fun n => n ⟨r1, r2, g1, g2, r5, r6, g5, g6⟩⟩, fun hy => ⟨fun n => n ⟨by omega, by omega, ?_⟩, fun n => n (by omega)⟩⟩, fun n => n ⟨r1, r2, f1, f2⟩⟩
      · refine fe_min ok fz (k := x37_1.toNat) (by omega) ?_ ((DUR_rj j0).2 (hD.1 hz))
        exact AHR_rw.1 ((AHR_rj j0).2 (hA.1 hy))
      · exact st_yes j0 c (by omega) ((AHR_rj j0).2 (hA.1 hy))
      · refine st_no j0 c (by omega) inv fun q => ?_
        have := hA.2 ((AHR_rj j0).1 q)
        rw [hy] at this; cases this
    · have sI : x37_0 = true ↔ x281578056253455_1 = true := by
        rw [inv, fe_is ok fz]
        have ec : x37_1.toNat = T0.ord.length := by omega
        rw [ec]
        simp only [AHR_rw]
      refine ⟨fun eq => ⟨fun _ => trivial, fun hz => ⟨fun hA => ⟨fun _ => ⟨fun e2 e3 => ?_, fun n => n sz2⟩, fun hy => ?_⟩, fun n => n ⟨g1, g2, f1, f2⟩⟩⟩, fun n => n (Bool.eq_iff_iff.2 sI.symm)⟩
      · subst e2
        exact e3.2 (fe_in ok fz hz rfl).2
      · have := hA.2 (AHR_mk.1 (fe_in ok fz hz rfl).1)
        rw [hy] at this; cases this
  · have kn := (K_nd lf).1 kz
    have kI := kn.1
    obtain ⟨_, d1, d2, _, _, _⟩ := K7_it.1 kI
    have sn := size_nd lf
    refine ⟨fun n => n ⟨d1, d2, f1, f2⟩, fun hA => ⟨fun hy => ?_, fun hy => ⟨fun n => n ⟨kn.2.2.1, ka, ?_⟩, fun n => n (by omega)⟩⟩⟩
    · have q : (fun x => AHR x [e0, e1, e2, e3, e4, e5, e6]) (it7 x281578056253455_0) := AHR_ti.2 (hA.1 hy)
      refine ⟨fun lL => ?_, fun lL => ?_⟩
      · have kA := ((K_nd lL).1 kn.2.2.1).2.1
        refine ⟨fun hz => ⟨fun n => n ⟨ka, kA⟩, fun j1 => ?_⟩, fun hz => ?_⟩
        · rintro ⟨rfl, rfl, rfl, rfl, rfl, rfl, rfl⟩
          have kj := K7_JN ka kA
          rw [← al7_of, ← j1] at kj
          refine ⟨fun n => n ⟨kj, kI⟩, fun j2 => ⟨fun n => n ⟨kn.2.2.2, ?_, ?_⟩, fun n => n (by omega)⟩⟩
          · rw [j2]; exact K7_JN kj kI
          · rw [← fz]; exact fs1 hz lf q lL j1 j2
        · rintro ⟨rfl, rfl, rfl, rfl, rfl, rfl, rfl⟩
          refine ⟨fun n => n ⟨kA, kI⟩, fun j2 => ⟨fun n => n ⟨kn.2.2.2, ?_, ?_⟩, fun n => n (by omega)⟩⟩
          · rw [j2]; exact K7_JN kA kI
          · rw [← fz]; exact fs2 hz lf q lL j2
      · rintro ⟨rfl, rfl, rfl, rfl, rfl, rfl, rfl⟩
        refine ⟨fun hz => ⟨fun n => n ⟨ka, kI⟩, fun j2 => ⟨fun n => n ⟨kn.2.2.2, ?_, ?_⟩, fun n => n (by omega)⟩⟩, fun hz => ⟨fun n => n ⟨kn.2.2.2, kI, ?_⟩, fun n => n (by omega)⟩⟩
        · rw [j2]; exact K7_JN ka kI
        · rw [← fz]; exact fs3 hz lf q lL j2
        · rw [← fz]; exact fs4 hz lf q lL rfl
    · rw [← fz]; exact fs_no lf fun q => by
        have := hA.2 (AHR_ti.1 q)
        rw [hy] at this; cases this
end Go.Proofs.Ytkepkjahbcddlaa.Fn
