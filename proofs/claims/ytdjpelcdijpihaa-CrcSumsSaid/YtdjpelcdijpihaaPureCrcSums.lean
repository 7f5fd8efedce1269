/- The pure statement of the law CrcSums; it is proved in the text of the four laws, under the sizes that the row gives. -/
import Derived.Test.YtdjpelcdijpihaaCrcLaws
